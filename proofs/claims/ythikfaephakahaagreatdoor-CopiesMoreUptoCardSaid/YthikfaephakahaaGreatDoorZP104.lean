/- Contracts by the engine: package copies: Spread. Conditions: lengths that Go allows. -/
import Derived.Test.YthikfaephakahaaGreatDoorZP100
import Derived.Test.YthikfaephakahaaGreatDoorZP102
import Derived.Test.YthikfaephakahaaGreatDoorZP103
import Derived.Test.YthikfaephakahaaGreatDoorZEngII
set_option linter.unusedVariables false
set_option linter.unusedSimpArgs false
namespace Go.Proofs.YthikfaephakahaaGreatDoor.P
open Go Go.Eng
set_option maxRecDepth 100000
set_option maxHeartbeats 40000000
def primT (pr:Int) (l:List Version) (h:Int):List Int:=if h=pr then l.map (·.time) else []
theorem primT_next {pr:Int} {l:List Version} {k:Nat} {v:Version} (hv:l[k]? = some v) (y:Int):primT pr (l.take (k+1)) y=if y=pr then primT pr (l.take k) y++[v.time] else primT pr (l.take k) y:=by
 unfold primT;split
 ·rw [take_next hv,List.map_append]; rfl
 ·rfl
theorem times_next {l:List Version} {pr:Int} {polls:List Poll} {k:Nat} {p:Poll} (hp:polls[k]? = some p) (hq:p.host≠pr∧p.lost=false) (y:Int):timesL l pr (polls.take (k+1)) y=if y=p.host then timesL l pr (polls.take k) y++[p.time] else timesL l pr (polls.take k) y:=by
 unfold timesL;by_cases e:y=pr
 ·rw [if_pos e,if_pos e,if_neg (fun h:y=p.host=>hq.1 (h.symm.trans e))]
 ·rw [if_neg e,if_neg e,take_next hp,List.filter_append,List.map_append];by_cases h2:y=p.host
  ·subst h2; rw [if_pos rfl]; simp [hq.2]
  ·rw [if_neg h2]; simp [Ne.symm h2]
theorem times_skip {l:List Version} {pr:Int} {polls:List Poll} {k:Nat} {p:Poll} (hp:polls[k]? = some p) (hq:¬ (p.host≠pr∧p.lost=false)) (y:Int):timesL l pr (polls.take (k+1)) y=timesL l pr (polls.take k) y:=by
 unfold timesL;by_cases e:y=pr
 ·rw [if_pos e,if_pos e]
 ·rw [if_neg e,if_neg e,take_next hp,List.filter_append,List.map_append];have:(decide (p.host=y) && !p.lost)=false:=by
   cases hl:p.lost
   ·have:p.host=pr:=Classical.byContradiction fun h=>hq ⟨h,hl⟩;simp [this,Ne.symm e]
   ·simp
  simp [List.filter_cons,this]
theorem RIs.congr {T U:Int→List Int} {ds:List RI} (h:RIs T ds) (e:∀ y,U y=T y):RIs U ds:=by
 obtain rfl:U=T:=funext e;exact h
def restI (ds:List RI) (k:Nat):List RI:=ds.filter fun d=>decide ((k:Int)≤d.p)
theorem restI_zero {T:Int→List Int} {ds:List RI} (H:∀ d∈ds,0≤d.p):restI ds 0=ds:=by
 rw [restI,List.filter_eq_self];intro d hd;have:=H d hd;simp only [decide_eq_true_eq];omega
theorem restI_next {ds:List RI} {k:Nat} (h:∀ d∈ds,d.p≠k):restI ds (k+1)=restI ds k:=by
 unfold restI;refine List.filter_congr fun d hd=>?_;have:=h d hd;rw [Bool.eq_iff_iff,decide_eq_true_eq,decide_eq_true_eq];omega
theorem restI_at {T:Int→List Int} {p1 p2:List RI} {d:RI} {k:Nat} (H:RIs T (p1++d::p2)) (hp:d.p=k):restI (p1++d::p2) k=restI p1 (k+1)++d::restI p2 (k+1)∧restI (p1++d::p2) (k+1)=restI p1 (k+1)++restI p2 (k+1):=by
 have hnd:=H.nodup;simp only [List.map_append,List.map_cons] at hnd;have hne:∀ e,e∈p1∨e∈p2→e.p≠k:=fun e he q=>by
  rw [List.nodup_append] at hnd;obtain ⟨h1,h2,h3⟩:=hnd;rw [List.nodup_cons] at h2;rcases he with he | he
  ·exact h3 e.p (List.mem_map_of_mem he) d.p (List.mem_cons_self ..) (q.trans hp.symm)
  ·exact h2.1 (List.mem_map.2 ⟨e,he,q.trans hp.symm⟩)
 rw [restI_next fun e he=>hne e (.inl he),restI_next fun e he=>hne e (.inr he)];refine ⟨?_,?_⟩
 ·unfold restI;rw [List.filter_append,List.filter_cons,if_pos (by simp [hp])]
 ·rw [← restI_next fun e he=>hne e (.inl he),← restI_next fun e he=>hne e (.inr he)];unfold restI;rw [List.filter_append,List.filter_cons,if_neg (by simp [hp]; omega)]
def strE (l:List Version) (T:Int→List Int) (fin:Int) (h:Nat):DV := .sl ((strC l (T h) fin).map Stretch.enc)
theorem strC_nil {l:List Version} {fin:Int}:strC l [] fin=[]:=by
 have:pairsG l [] l.length=[]:=by
  rw [pairsG,List.filterMap_eq_nil_iff];intro v _;simp [frmT,minL]
 rw [strC,this]; rfl
theorem stretchesNil_p (l:List Version) (fin:Int):PCalls E 53 [.sl (l.map Version.enc),.nilsl,.int .i64 fin] (· = .sl []):=by
 refine eP Tryz.func53 ?_
 with_reducible refine callP_eq (sortNil_p) ?_
 refine gO Tryz.func53 ?_;refine AWL.adopt 7 (109,3) (by decide) rfl ?_;(conv=>whnf);refine AWL.unroll ?_;refine AWL.run E_ok Tryz.func53 2000 ?_;(conv=>whnf);refine caseB_no (by decide) ?_;(conv=>whnf);refine AWL.freeze 0 ?_;(conv=>whnf);refine gO Tryz.func53 ?_
 with_reducible refine callS_eq ((show ACalls E 110 [] [.d (.sl []),.fn (.func 111) [] []] (fun a b=>a = .own 0 1∧b=[.arr 1 (109,3) []]) from by simpa [joinF] using join_a [] fin (by simp))) ?_
 refine gO Tryz.func53 ?_;refine AWL.unroll ?_;refine AWL.run E_ok Tryz.func53 2000 ?_;(conv=>whnf);refine caseB_no (by decide) ?_;refine gO Tryz.func53 ?_
 with_reducible rfl
def cntS (l:List Version) (T:Int→List Int) (fin:Int) (k:Nat):Nat:=((List.range k).flatMap fun h:Nat=>strC l (T h) fin).length
theorem cntS_next {l:List Version} {T:Int→List Int} {fin:Int} {k:Nat}:cntS l T fin (k+1)=cntS l T fin k+(strC l (T k) fin).length:=by
 rw [cntS,List.range_succ,List.flatMap_append,List.length_append];simp [cntS]
theorem cntS_le {l:List Version} {T:Int→List Int} {fin:Int}:∀ k,cntS l T fin k≤k*l.length
 | 0=>by simp [cntS]
 |k+1=>by
  have:=cntS_le (l:=l) (T:=T) (fin:=fin) k;have h2:=str_len (l:=l) (T:=T k) (fin:=fin);rw [cntS_next,Nat.succ_mul];omega
theorem cntS_spread {l:List Version} {pr fin:Int} {polls:List Poll}:∀ k,cntS l (timesL l pr polls) fin k=(spreadTo l pr polls fin k).length
 | 0=>rfl
 |k+1=>by rw [cntS_next,spread_next,List.length_append,cntS_spread k,hostC,List.length_map]
theorem spread_p (l:List Version) (pr fin:Int) (polls:List Poll) (hf:VersFit l) (hp:polls.length≤1000000):PCalls E 17 [.sl (l.map Version.enc),.int .i64 pr,.sl (polls.map Poll.enc),.int .i64 fin] (· = .tup [.sl ((spreadR l pr polls fin).map Copy.enc),.int .i64 (spreadN l pr polls fin)]):=by
 have hlen:=hf.len;have c1:=isEnd_p fin;have c2:=right15_p l fin hf;have c3:=isHost_p pr;have c4:=rightPolls_p polls fin;have bad:(endB fin&&(rightB l fin&&(hostN pr&&pollsB polls fin)))=false→spreadN l pr polls fin=1:=fun h=>by
  unfold spreadN; rw [h]; rfl
 refine PCalls.norm ?_;refine eP Tryz.func17 ?_
 with_reducible refine callP_eq (c1) ?_
 refine gO Tryz.func17 ?_;cases he:endB fin
 ·have e:=bad (by simp [he]);repeat' (first | with_reducible refine cY ?_ | with_reducible refine cN ?_ | with_reducible refine caseB_split (fun _=>?_) (fun _=>?_) | refine gA Tryz.func17 ?_ | refine gB ?_ | refine gC ?_ | with_reducible rfl)
  exact spread_one e
 refine caseB_false ?_;refine gO Tryz.func17 ?_
 with_reducible refine callP_eq (c2) ?_
 refine gO Tryz.func17 ?_;cases hr:rightB l fin
 ·have e:=bad (by simp [hr]);repeat' (first | with_reducible refine cY ?_ | with_reducible refine cN ?_ | with_reducible refine caseB_split (fun _=>?_) (fun _=>?_) | refine gA Tryz.func17 ?_ | refine gB ?_ | refine gC ?_ | with_reducible rfl)
  exact spread_one e
 refine caseB_false ?_;refine gO Tryz.func17 ?_
 with_reducible refine callP_eq (c3) ?_
 refine gO Tryz.func17 ?_;cases hh:hostN pr
 ·have e:=bad (by simp [hh]);repeat' (first | with_reducible refine cY ?_ | with_reducible refine cN ?_ | with_reducible refine caseB_split (fun _=>?_) (fun _=>?_) | refine gA Tryz.func17 ?_ | refine gB ?_ | refine gC ?_ | with_reducible rfl)
  exact spread_one e
 refine caseB_false ?_;refine gO Tryz.func17 ?_
 with_reducible refine callP_eq (c4) ?_
 refine gO Tryz.func17 ?_;cases hpb:pollsB polls fin
 ·have e:=bad (by simp [hpb]);repeat' (first | with_reducible refine cY ?_ | with_reducible refine cN ?_ | with_reducible refine caseB_split (fun _=>?_) (fun _=>?_) | refine gA Tryz.func17 ?_ | refine gB ?_ | refine gC ?_ | with_reducible rfl)
  exact spread_one e
 have V:=right_of hr;have hp3:∀ p∈polls,pollOK fin p=true:=fun p hp=>by
  simp only [pollsB,Bool.and_eq_true] at hpb;exact List.all_eq_true.1 hpb.2 p hp
 clear bad c1 c2 c3 c4;refine caseB_false ?_;refine gO Tryz.func17 ?_;refine gO Tryz.func17 ?_;refine AWL.loopR (κ:=Nat × List RI) [12,47,48,49,50,51,52,53,54,55,56,57,58,59,60] (fun x=>[(47,.d (.int .i64 x.1)),(10,.map 0)]) (fun x=>[(0,.map (x.2.map RI.ent))]) (fun x=>x.2.map RI.ghost) (fun x=>x.1≤l.length∧RIs (primT pr (l.take x.1)) x.2) (fun x=>l.length - x.1) (0,[]) ⟨Nat.zero_le _,RIs.nil (fun y=>by simp [primT])⟩ rfl ?_ ?_
 ·(conv=>whnf);repeat (first | exact trivial | (refine sI ?_; conv=>whnf))
  refine And.intro rfl ?_;(conv=>whnf);repeat (first | exact trivial | (refine sI ?_; conv=>whnf))
 rintro ⟨k,ds⟩ ⟨hk,hds⟩ IH;simp only at hk hds;refine AWL.head E_ok Tryz.func17 2000 ?_;(conv=>whnf);refine caseB_split (fun h5=>?_) (fun h5=>?_)
 ·skip;have hlt:k<l.length:=by simpa using h5
  obtain ⟨v,hv⟩:=some_of_lt hlt;have hU:=primT_next (pr:=pr) hv;refine gO Tryz.func17 ?_;refine elemP_at (e:=v.enc) (at_map hv) rfl ?_;refine gO Tryz.func17 ?_;by_cases hex:∃ d∈ds,d.p=pr
  ·obtain ⟨d,hd,hdp⟩:=hex;obtain ⟨p1,p2,rfl⟩:=List.append_of_mem hd;have hi:(p1++d::p2)[p1.length]? = some d:=by simp
   obtain ⟨e1,e2,e3⟩:=entI_found hi hds.nodup;rw [hdp] at e1 e2;have hdl:d.l.length≤k:=by
    rw [(hds.each d hd).1,hdp,primT,if_pos rfl]; simp; omega
   refine lookP_intro (.raw (.slice none 0 0)) (.slice none 0 0) (v := .raw d.slice) (f:=true) ⟨_,rfl⟩ keysI (fun w=>by kernel_rfl) (fun _ _ => .raw _ rfl) (by rw [e1]; rfl) (by rw [e1]; rfl) ?_;(conv=>whnf);refine AWL.borrow 55 (rw_:=⟨d.blk,d.cap,(3,1),d.l.map (.int .i64)⟩) (n:=d.l.length) (g1:=p1.map RI.ghost) (g2:=p2.map RI.ghost) (by show (p1++d::p2).map RI.ghost=_; simp [RI.ghost]) rfl (by simp) ?_;refine gO Tryz.func17 ?_;refine need_intro ⟨by simp; omega,by simp [DV.cells]⟩ ?_;(conv=>whnf);refine AWL.bury 59 2 rfl (Nat.zero_le _) rfl (fun hnil=>by simp at hnil) (fun blk cap=>?_);refine gO Tryz.func17 ?_;refine need_intro ⟨⟨_,rfl⟩,keysI⟩ ?_;refine gO Tryz.func17 ?_;refine AWL.permRows (rows:=(p1++(⟨pr,d.l++[v.time],blk,cap⟩:RI)::p2).map RI.ghost) ?_ ?_
   ·have e:(p1++(⟨pr,d.l++[v.time],blk,cap⟩:RI)::p2).map RI.ghost=p1.map RI.ghost ++ .row ⟨blk,cap,(3,1),d.l.map (.int .i64)++[DV.int .i64 v.time]⟩::p2.map RI.ghost:=by simp [RI.ghost]
    rw [e];exact List.perm_middle.symm
   refine AWL.back (IH (k+1,p1++⟨pr,d.l++[v.time],blk,cap⟩::p2) ⟨by simp only; omega,by simp only; exact hds.found hdp hU blk cap⟩ (by simp only; omega)) ?_;(conv=>whnf);repeat (first | exact trivial | (refine sI ?_; conv=>whnf))
   refine And.intro ((entI_put hds.nodup hdp).trans (by simp [RI.ent,RI.slice])) ?_;(conv=>whnf);repeat (first | exact trivial | (refine sI ?_; conv=>whnf))
  ·have hno:∀ d∈ds,d.p≠pr:=fun d hd e=>hex ⟨d,hd,e⟩;obtain ⟨e1,e2,e3⟩:=entI_none (v := .raw (.slice none 0 0)) hno;refine lookP_intro (.raw (.slice none 0 0)) (.slice none 0 0) (v := .raw (.slice none 0 0)) (f:=false) ⟨_,rfl⟩ keysI (fun w=>by kernel_rfl) (fun _ _ => .raw _ rfl) (by rw [e1]; rfl) (by rw [e1]; rfl) ?_;(conv=>whnf);refine AWL.adoptRaw 55 (3,1) (by decide) rfl ?_;refine gO Tryz.func17 ?_;refine need_intro ⟨by simp,by simp [DV.cells]⟩ ?_;(conv=>whnf);refine AWL.bury 59 2 rfl (Nat.zero_le _) rfl (fun hnil=>by simp at hnil) (fun blk cap=>?_);refine gO Tryz.func17 ?_;refine need_intro ⟨⟨_,rfl⟩,keysI⟩ ?_;refine gO Tryz.func17 ?_;refine AWL.permRows (rows:=(ds++[(⟨pr,[v.time],blk,cap⟩:RI)]).map RI.ghost) ?_ ?_
   ·have e:(ds++[(⟨pr,[v.time],blk,cap⟩:RI)]).map RI.ghost=ds.map RI.ghost++[.row ⟨blk,cap,(3,1),[]++[DV.int .i64 v.time]⟩]:=by simp [RI.ghost]
    rw [e];exact (List.perm_append_singleton _ _).symm
   refine AWL.back (IH (k+1,ds++[⟨pr,[v.time],blk,cap⟩]) ⟨by simp only; omega,by simp only; exact hds.new hno hU blk cap⟩ (by simp only; omega)) ?_;(conv=>whnf);repeat (first | exact trivial | (refine sI ?_; conv=>whnf))
   refine And.intro ((entI_none hno).2.2.trans (by simp [RI.ent,RI.slice])) ?_;(conv=>whnf);repeat (first | exact trivial | (refine sI ?_; conv=>whnf))
 ·have hge:l.length≤k:=by simpa using h5
  rw [List.take_of_length_le hge] at hds;clear IH;replace hds:RIs (timesL l pr (polls.take 0)) ds:=hds.congr fun y=>by simp [timesL,primT]
  refine gO Tryz.func17 ?_;refine AWL.loopR (κ:=Nat × List RI) [14,63,64,65,66,67,68,69,70,71,72,73,74,75,76,77,78,79,80,81,82,83,84,85,86,87] (fun x=>[(63,.d (.int .i64 x.1)),(10,.map 0)]) (fun x=>[(0,.map (x.2.map RI.ent))]) (fun x=>x.2.map RI.ghost) (fun x=>x.1≤polls.length∧RIs (timesL l pr (polls.take x.1)) x.2) (fun x=>polls.length - x.1) (0,ds) ⟨Nat.zero_le _,hds⟩ rfl ?_ ?_
  ·(conv=>whnf);repeat (first | exact trivial | (refine sI ?_; conv=>whnf))
  clear hds;rintro ⟨k,ds⟩ ⟨hk,hds⟩ IH;simp only at hk hds;refine AWL.head E_ok Tryz.func17 2000 ?_;(conv=>whnf);refine caseB_split (fun h5=>?_) (fun h5=>?_)
  ·skip;have hlt:k<polls.length:=by simpa using h5
   obtain ⟨p,hpk⟩:=some_of_lt hlt;have skip:¬ (p.host≠pr∧p.lost=false)→RIs (timesL l pr (polls.take (k+1))) ds:=fun hq=>hds.congr (times_skip hpk hq);refine gO Tryz.func17 ?_;refine elemP_at (e:=p.enc) (at_map hpk) rfl ?_;refine gO Tryz.func17 ?_;by_cases hq1:p.host=pr
   ·refine caseB_no (by simpa using hq1) ?_;refine gO Tryz.func17 ?_;refine caseB_false ?_;refine gO Tryz.func17 ?_;refine AWL.back (IH (k+1,ds) ⟨by simp only; omega,skip (fun h=>h.1 hq1)⟩ (by simp only; omega)) ?_;(conv=>whnf);repeat (first | exact trivial | (refine sI ?_; conv=>whnf))
   refine caseB_yes (by simpa using hq1) ?_;refine gO Tryz.func17 ?_;cases hq2:p.lost
   case true =>
    refine caseB_no (by decide) ?_;refine gO Tryz.func17 ?_;refine AWL.back (IH (k+1,ds) ⟨by simp only; omega,skip (fun h=>by rw [hq2] at h; cases h.2)⟩ (by simp only; omega)) ?_;(conv=>whnf);repeat (first | exact trivial | (refine sI ?_; conv=>whnf))
   have hU:=times_next (l:=l) hpk ⟨hq1,hq2⟩;clear skip;refine caseB_yes (by decide) ?_;refine gO Tryz.func17 ?_;by_cases hex:∃ d∈ds,d.p=p.host
   ·obtain ⟨d,hd,hdp⟩:=hex;obtain ⟨p1,p2,rfl⟩:=List.append_of_mem hd;have hi:(p1++d::p2)[p1.length]? = some d:=by simp
    obtain ⟨e1,e2,e3⟩:=entI_found hi hds.nodup;rw [hdp] at e1 e2;have hdl:d.l.length≤400+1000000:=by
     rw [(hds.each d hd).1,hdp,timesL,if_neg hq1,List.length_map];exact Nat.le_trans (List.length_filter_le ..) (by simp; omega)
    refine AWL.permRows (rows := .row ⟨d.blk,d.cap,(3,1),d.l.map (.int .i64)⟩::(p1++p2).map RI.ghost) ?_ ?_
    ·have e:(p1++d::p2).map RI.ghost=p1.map RI.ghost ++ .row ⟨d.blk,d.cap,(3,1),d.l.map (.int .i64)⟩::p2.map RI.ghost:=by simp [RI.ghost]
     refine (List.Perm.of_eq e).trans ?_;rw [List.map_append];exact List.perm_middle
    refine AWL.drawRowK E_ok E_mixed 10 (by kernel_rfl) (hox:=rfl) (hgx:=rfl) (ts:=(3,1)) (l':=d.l.map (.int .i64)++[.int .i64 p.time]) (rest:=(p1++p2).map RI.ghost) ?_;refine BPlan.op E_ok rfl _ (opOK_of E_ok (by (conv=>whnf); exact ⟨rfl,rfl⟩)) (opOK_of E_ok (by (conv=>whnf); exact ⟨rfl,rfl⟩)) ?_;refine BPlan.op E_ok rfl _ (opOK_of E_ok (by (conv=>whnf); exact ⟨rfl,rfl⟩)) (opOK_of E_ok (by (conv=>whnf); exact ⟨rfl,rfl⟩)) ?_;refine BPlan.op E_ok rfl _ (opOK_of E_ok (by (conv=>whnf); exact ⟨rfl,rfl⟩)) (opOK_of E_ok (by (conv=>whnf); exact ⟨rfl,rfl⟩)) ?_;refine BPlan.op E_ok rfl _ (opOK_of E_ok (by (conv=>whnf); exact ⟨rfl,rfl⟩)) (opOK_of E_ok (by (conv=>whnf); exact ⟨rfl,rfl⟩)) ?_;refine BPlan.op E_ok rfl _ (opOK_of E_ok (by (conv=>whnf); exact ⟨rfl,rfl⟩)) (opOK_of E_ok (by (conv=>whnf); exact ⟨rfl,rfl⟩)) ?_;refine BPlan.op E_ok rfl _ (opOK_of E_ok (by (conv=>whnf); exact ⟨rfl,rfl⟩)) (opOK_of E_ok (by (conv=>whnf); exact ⟨rfl,rfl⟩)) ?_;refine BPlan.op E_ok rfl (.d (.raw d.slice)) (sideOK_of E_ok (by (conv=>whnf); exact lookP_intro (.raw (.slice none 0 0)) (.slice none 0 0) (v := .raw d.slice) (f:=true) ⟨_,rfl⟩ keysI (fun w=>by kernel_rfl) (fun _ _ => .raw _ rfl) (by rw [e1]; rfl) (by rw [e1]; rfl) ⟨rfl,rfl⟩)) (sideOK_of E_ok (by (conv=>whnf); exact lookP_intro (.raw (.slice none 0 0)) (.slice none 0 0) (v := .raw d.slice) (f:=true) ⟨_,rfl⟩ keysI (fun w=>by kernel_rfl) (fun _ _ => .raw _ rfl) (by rw [e1]; rfl) (by rw [e1]; rfl) ⟨rfl,rfl⟩)) ?_;refine BPlan.op E_ok rfl _ (opOK_of E_ok (by (conv=>whnf); exact ⟨rfl,rfl⟩)) (opOK_of E_ok (by (conv=>whnf); exact ⟨rfl,rfl⟩)) ?_;refine BPlan.op E_ok rfl _ (opOK_of E_ok (by (conv=>whnf); exact ⟨rfl,rfl⟩)) (opOK_of E_ok (by (conv=>whnf); exact ⟨rfl,rfl⟩)) ?_;refine BPlan.op E_ok rfl _ (opOK_of E_ok (by (conv=>whnf); exact ⟨rfl,rfl⟩)) (opOK_of E_ok (by (conv=>whnf); exact ⟨rfl,rfl⟩)) ?_;refine And.intro ?_ ?_
    ·intro c0 c a q0 q1 q2 q3 q4 q5;refine app_row (rw_:=⟨d.blk,d.cap,(3,1),d.l.map (.int .i64)⟩) q1 q3 q4 q5 q2 (d:=82) (by simp only [List.length_map]; rfl) (appOK_of E_ok ?_) (by simp) (by rw [q0]; exact Nat.zero_le _);(conv=>whnf);refine need_intro ⟨by simp; omega,by simp [DV.cells]⟩ ?_;(conv=>whnf);exact ⟨rfl,rfl⟩
    intro blk cap;refine gO Tryz.func17 ?_;refine need_intro ⟨⟨_,rfl⟩,keysI⟩ ?_;refine gO Tryz.func17 ?_;refine AWL.permRows (rows:=(p1++(⟨p.host,d.l++[p.time],blk,cap⟩:RI)::p2).map RI.ghost) ?_ ?_
    ·have e:(p1++(⟨p.host,d.l++[p.time],blk,cap⟩:RI)::p2).map RI.ghost=p1.map RI.ghost ++ .row ⟨blk,cap,(3,1),d.l.map (.int .i64)++[DV.int .i64 p.time]⟩::p2.map RI.ghost:=by simp [RI.ghost]
     show (Ghost.row ⟨blk,cap,(3,1),d.l.map (.int .i64)++[DV.int .i64 p.time]⟩::(p1++p2).map RI.ghost).Perm _;rw [e,List.map_append];exact List.perm_middle.symm
    refine AWL.back (IH (k+1,p1++⟨p.host,d.l++[p.time],blk,cap⟩::p2) ⟨by simp only; omega,by simp only; exact hds.found hdp hU blk cap⟩ (by simp only; omega)) ?_;(conv=>whnf);repeat (first | exact trivial | (refine sI ?_; conv=>whnf))
    refine And.intro ((entI_put hds.nodup hdp).trans (by simp [RI.ent,RI.slice])) ?_;(conv=>whnf);repeat (first | exact trivial | (refine sI ?_; conv=>whnf))
   ·have hno:∀ d∈ds,d.p≠p.host:=fun d hd e=>hex ⟨d,hd,e⟩;obtain ⟨e1,e2,e3⟩:=entI_none (v := .raw (.slice none 0 0)) hno;refine AWL.drawRowK E_ok E_mixed 10 (by kernel_rfl) (hox:=rfl) (hgx:=rfl) (ts:=(3,1)) (l':=[.int .i64 p.time]) (rest:=ds.map RI.ghost) ?_;refine BPlan.op E_ok rfl _ (opOK_of E_ok (by (conv=>whnf); exact ⟨rfl,rfl⟩)) (opOK_of E_ok (by (conv=>whnf); exact ⟨rfl,rfl⟩)) ?_;refine BPlan.op E_ok rfl _ (opOK_of E_ok (by (conv=>whnf); exact ⟨rfl,rfl⟩)) (opOK_of E_ok (by (conv=>whnf); exact ⟨rfl,rfl⟩)) ?_;refine BPlan.op E_ok rfl _ (opOK_of E_ok (by (conv=>whnf); exact ⟨rfl,rfl⟩)) (opOK_of E_ok (by (conv=>whnf); exact ⟨rfl,rfl⟩)) ?_;refine BPlan.op E_ok rfl _ (opOK_of E_ok (by (conv=>whnf); exact ⟨rfl,rfl⟩)) (opOK_of E_ok (by (conv=>whnf); exact ⟨rfl,rfl⟩)) ?_;refine BPlan.op E_ok rfl _ (opOK_of E_ok (by (conv=>whnf); exact ⟨rfl,rfl⟩)) (opOK_of E_ok (by (conv=>whnf); exact ⟨rfl,rfl⟩)) ?_;refine BPlan.op E_ok rfl _ (opOK_of E_ok (by (conv=>whnf); exact ⟨rfl,rfl⟩)) (opOK_of E_ok (by (conv=>whnf); exact ⟨rfl,rfl⟩)) ?_;refine BPlan.op E_ok rfl (.d (.nilsl)) (sideOK_of E_ok (by (conv=>whnf); exact lookP_intro (.nilsl) (.slice none 0 0) (v := .nilsl) (f:=false) ⟨_,rfl⟩ keysI (fun w=>by kernel_rfl) (fun _ _ => .nilsl) (by rw [e1]; rfl) (by rw [e1]; rfl) ⟨rfl,rfl⟩)) (sideOK_of E_ok (by (conv=>whnf); exact lookP_intro (.nilsl) (.slice none 0 0) (v := .nilsl) (f:=false) ⟨_,rfl⟩ keysI (fun w=>by kernel_rfl) (fun _ _ => .nilsl) (by rw [e1]; rfl) (by rw [e1]; rfl) ⟨rfl,rfl⟩)) ?_;refine BPlan.op E_ok rfl _ (opOK_of E_ok (by (conv=>whnf); exact ⟨rfl,rfl⟩)) (opOK_of E_ok (by (conv=>whnf); exact ⟨rfl,rfl⟩)) ?_;refine BPlan.op E_ok rfl _ (opOK_of E_ok (by (conv=>whnf); exact ⟨rfl,rfl⟩)) (opOK_of E_ok (by (conv=>whnf); exact ⟨rfl,rfl⟩)) ?_;refine BPlan.op E_ok rfl _ (opOK_of E_ok (by (conv=>whnf); exact ⟨rfl,rfl⟩)) (opOK_of E_ok (by (conv=>whnf); exact ⟨rfl,rfl⟩)) ?_;refine And.intro ?_ ?_
    ·intro c0 c a q0 q1 q2 q3 q4 q5;refine app_new q1 q3 q4 q5 q2 (appOK_of E_ok ?_) (by simp) (by rw [q0]; exact Nat.zero_le _);(conv=>whnf);refine need_intro ⟨by simp,by simp [DV.cells]⟩ ?_;(conv=>whnf);exact ⟨rfl,rfl⟩
    intro blk cap;refine gO Tryz.func17 ?_;refine need_intro ⟨⟨_,rfl⟩,keysI⟩ ?_;refine gO Tryz.func17 ?_;refine AWL.permRows (rows:=(ds++[(⟨p.host,[p.time],blk,cap⟩:RI)]).map RI.ghost) ?_ ?_
    ·have e:(ds++[(⟨p.host,[p.time],blk,cap⟩:RI)]).map RI.ghost=ds.map RI.ghost++[.row ⟨blk,cap,(3,1),[DV.int .i64 p.time]⟩]:=by simp [RI.ghost]
     rw [e];exact (List.perm_append_singleton _ _).symm
    refine AWL.back (IH (k+1,ds++[⟨p.host,[p.time],blk,cap⟩]) ⟨by simp only; omega,by simp only; exact hds.new hno hU blk cap⟩ (by simp only; omega)) ?_;(conv=>whnf);repeat (first | exact trivial | (refine sI ?_; conv=>whnf))
    refine And.intro ((entI_none hno).2.2.trans (by simp [RI.ent,RI.slice])) ?_;(conv=>whnf);repeat (first | exact trivial | (refine sI ?_; conv=>whnf))
  ·have hge:polls.length≤k:=by simpa using h5
   rw [List.take_of_length_le hge] at hds;clear IH;have hVf:=V.few;have htl:∀ h,(timesL l pr polls h).length≤1000000:=fun h=>by
    unfold timesL;split
    ·simp; omega
    ·rw [List.length_map];exact Nat.le_trans (List.length_filter_le ..) (by omega)
   generalize hT:timesL l pr polls=T at *;have hpos:∀ d∈ds,0≤d.p:=fun d hd=>by
    obtain ⟨q1,q2⟩:=hds.each d hd;have hne:timesL l pr polls d.p≠[]:=by rw [hT,← q1]; exact q2
    unfold timesL at hne;by_cases e:d.p=pr
    ·rw [e]; have:=hh; simp [hostN] at this; omega
    ·rw [if_neg e] at hne;obtain ⟨p,hp⟩:=List.exists_mem_of_ne_nil _ (fun q=>hne (by simp [q]):(polls.filter fun p=>decide (p.host=d.p) && !p.lost)≠[]);rw [List.mem_filter] at hp;have h1:=hp3 p hp.1;have h2:p.host=d.p:=by have:=hp.2; simp at this; exact this.1
     simp [pollOK,hostN] at h1;omega
   refine AWL.permRows (rows:=(restI ds 0).map RI.ghost) (List.Perm.of_eq (by rw [restI_zero (T:=T) hpos])) ?_;refine gO Tryz.func17 ?_;refine need_intro ⟨by omega,by omega,by omega⟩ ?_;refine gO Tryz.func17 ?_;refine AWL.loopR (κ:=Nat) [16,17,91,92,93,94,95,96,97,98,99,100,101,102,103,104,105,106,107,108,109,110] (fun x=>[(91,.d (.int .i64 x)),(16,.d (.int .i64 (cntS l T fin x))),(15,.own 1 0),(10,.map 0)]) (fun x=>[(0,.map (ds.map RI.ent)),(1,.arr 0 (106,1) ((List.range x).map (strE l T fin)++List.replicate (64 - x) .nilsl))]) (fun x=>(restI ds x).map RI.ghost) (fun x=>x≤64) (fun x=>64 - x) 0 (by omega) rfl ?_ ?_
   ·(conv=>whnf);repeat (first | exact trivial | (refine sI ?_; conv=>whnf))
    refine And.intro (by simp) ?_;(conv=>whnf);repeat (first | exact trivial | (refine sI ?_; conv=>whnf))
    refine And.intro (by simp [cntS]) ?_;(conv=>whnf);repeat (first | exact trivial | (refine sI ?_; conv=>whnf))
   rintro k hk IH;refine AWL.head E_ok Tryz.func17 2000 ?_;(conv=>whnf);refine caseB_split (fun h5=>?_) (fun h5=>?_)
   ·have hlt : k < 64 := by have : (k : Int) < 64 := by simpa using h5
                            omega
    have hnx:=cntS_next (l:=l) (T:=T) (fin:=fin) (k:=k);have hcl:=cntS_le (l:=l) (T:=T) (fin:=fin) k;have hsl:=str_len (l:=l) (T:=T k) (fin:=fin);have hkl:k*l.length≤64*400:=Nat.mul_le_mul (by omega) hVf;have hset:((List.range k).map (strE l T fin)++List.replicate (64 - k) DV.nilsl).set (k:Int).toNat (.sl ((strC l (T k) fin).map Stretch.enc))=(List.range (k+1)).map (strE l T fin)++List.replicate (64 - (k+1)) DV.nilsl:=range_set (F:=strE l T fin) hlt;have hget:((List.range k).map (strE l T fin)++List.replicate (64 - k) DV.nilsl)[k]? = some DV.nilsl:=rep_get hlt;have hln:((List.range k).map (strE l T fin)++List.replicate (64 - k) DV.nilsl).length=64:=rep_len (by omega);refine gO Tryz.func17 ?_;by_cases hex:∃ d∈ds,d.p=(k:Int)
    ·obtain ⟨d,hd,hdp⟩:=hex;obtain ⟨p1,p2,rfl⟩:=List.append_of_mem hd;have hi:(p1++d::p2)[p1.length]? = some d:=by simp
     obtain ⟨e1,e2,e3⟩:=entI_found hi hds.nodup;rw [hdp] at e1 e2;obtain ⟨hdl,hdne⟩:=hds.each d hd;obtain ⟨r1,r2⟩:=restI_at hds hdp;rw [hdp] at hdl;have htk:=htl k;refine lookP_intro (.raw (.slice none 0 0)) (.slice none 0 0) (v := .raw d.slice) (f:=true) ⟨_,rfl⟩ keysI (fun w=>by kernel_rfl) (fun _ _ => .raw _ rfl) (by rw [e1]; rfl) (by rw [e1]; rfl) ?_;(conv=>whnf);refine AWL.borrow 99 (rw_:=⟨d.blk,d.cap,(3,1),d.l.map (.int .i64)⟩) (n:=d.l.length) (g1:=(restI p1 (k+1)).map RI.ghost) (g2:=(restI p2 (k+1)).map RI.ghost) (by show (restI (p1++d::p2) k).map RI.ghost=_; rw [r1]; simp [RI.ghost]) rfl (by simp) ?_;rw [hdl];refine gO Tryz.func17 ?_
     with_reducible refine callS_eq (stretches_a l (T k) fin V.sorted hlen (hdl ▸ hdne) (by omega)) ?_
     refine gO Tryz.func17 ?_;refine need_intro ⟨by omega,by rw [hln]; omega⟩ ?_;(conv=>whnf);refine AWL.freeze 4 ?_;(conv=>whnf);refine gO Tryz.func17 ?_;refine elemP_at (e := .nilsl) (at_list hget) rfl ?_;refine gO Tryz.func17 ?_;refine need_intro ⟨by omega,by simp only [List.length_set]; rw [hln]; omega⟩ ?_;refine gO Tryz.func17 ?_;refine elemP_at (e := .sl ((strC l (T k) fin).map Stretch.enc)) (at_list (List.getElem?_set_self (by rw [hln]; omega))) rfl ?_;refine gO Tryz.func17 ?_;refine AWL.permRows (rows:=(restI (p1++d::p2) (k+1)).map RI.ghost) (List.Perm.of_eq (show (restI p1 (k+1)).map RI.ghost++(restI p2 (k+1)).map RI.ghost=_ by rw [r2,List.map_append])) ?_;refine AWL.back (IH (k+1) (by omega) (by omega)) ?_;(conv=>whnf);repeat (first | exact trivial | (refine sI ?_; conv=>whnf))
     refine And.intro hset ?_;(conv=>whnf);repeat (first | exact trivial | (refine sI ?_; conv=>whnf))
     refine And.intro (congrArg (DV.int .i64) (by rw [hnx]; simp only [List.length_map,List.length_nil]; rw [wrap64 (by omega) (by omega)]; omega)) ?_;(conv=>whnf);repeat (first | exact trivial | (refine sI ?_; conv=>whnf))
    ·have hno:∀ d∈ds,d.p≠(k:Int):=fun d hd e=>hex ⟨d,hd,e⟩;obtain ⟨e1,e2,e3⟩:=entI_none (v := .raw (.slice none 0 0)) hno;have hTk:T k=[]:=hds.none k hno;rw [hTk,strC_nil] at hset hnx;refine lookP_intro (.nilsl) (.slice none 0 0) (v := .nilsl) (f:=false) ⟨_,rfl⟩ keysI (fun w=>by kernel_rfl) (fun _ _ => .nilsl) (by rw [e1]; rfl) (by rw [e1]; rfl) ?_;refine gO Tryz.func17 ?_;refine callP_eq (stretchesNil_p l fin) ?_;refine gO Tryz.func17 ?_;refine need_intro ⟨by omega,by rw [hln]; omega⟩ ?_;refine gO Tryz.func17 ?_;refine elemP_at (e := .nilsl) (at_list hget) rfl ?_;refine gO Tryz.func17 ?_;refine need_intro ⟨by omega,by simp only [List.length_set]; rw [hln]; omega⟩ ?_;refine gO Tryz.func17 ?_;refine elemP_at (e := .sl []) (at_list (List.getElem?_set_self (by rw [hln]; omega))) rfl ?_;refine gO Tryz.func17 ?_;refine AWL.permRows (rows:=(restI ds (k+1)).map RI.ghost) (List.Perm.of_eq (by rw [restI_next hno])) ?_;refine AWL.back (IH (k+1) (by omega) (by omega)) ?_;(conv=>whnf);repeat (first | exact trivial | (refine sI ?_; conv=>whnf))
     refine And.intro hset ?_;(conv=>whnf);repeat (first | exact trivial | (refine sI ?_; conv=>whnf))
     refine And.intro (congrArg (DV.int .i64) (by rw [hnx]; simp only [List.length_map,List.length_nil]; rw [wrap64 (by omega) (by omega)]; omega)) ?_;(conv=>whnf);repeat (first | exact trivial | (refine sI ?_; conv=>whnf))
   ·have hge : k = 64 := by have : ¬ (k : Int) < 64 := by simpa using h5
                            omega
    subst hge;clear IH;rw [show 64 - 64=0 from rfl,List.replicate_zero,List.append_nil];have hcs:=cntS_spread (l:=l) (pr:=pr) (fin:=fin) (polls:=polls) 64;rw [hT] at hcs;have hN:spreadN l pr polls fin=if 4000<cntS l T fin 64 then 2 else 0:=by
     unfold spreadN;rw [he,hr,hh,hpb,hcs];rfl
    refine gO Tryz.func17 ?_;refine caseB_split (fun h6=>?_) (fun h6=>?_)
    ·have h7:spreadN l pr polls fin=2:=by
      rw [hN,if_pos (by have:=of_decide_eq_true h6; omega)]
     refine gO Tryz.func17 ?_;rw [spreadR,h7];rfl
    ·have h7:spreadN l pr polls fin=0:=by
      rw [hN,if_neg (by have:=of_decide_eq_false h6; omega)]
     rw [spreadR,h7,if_pos rfl];clear hN hcs;subst hT;(conv=>whnf);refine AWL.freeze 1 ?_;(conv=>whnf);refine gO Tryz.func17 ?_;refine AWL.adopt 18 (45,5) (by decide) rfl ?_;(conv=>whnf);refine AWL.loop (κ:=Nat) ([18,19,20,22,23]++rg 115 30) (fun k=>[(115,.d (.int .i64 k)),(18,.own 2 1)]) (fun k=>[(2,.arr 1 (45,5) ((spreadTo l pr polls fin k).map Copy.enc))]) (fun k=>k≤64) (fun k=>64 - k) 0 (by omega) ?_ ?_
     ·(conv=>whnf);repeat (first | exact trivial | (refine sI ?_; conv=>whnf))
      refine And.intro rfl ?_;(conv=>whnf);repeat (first | exact trivial | (refine sI ?_; conv=>whnf))
     intro k hk IH;refine AWL.head E_ok Tryz.func17 2000 ?_;(conv=>whnf);refine caseB_split (fun h5=>?_) (fun h5=>?_)
     ·have hlt : k < 64 := by have : (k : Int) < 64 := by simpa using h5
                              omega
      have hge2:((List.range 64).map (strE l (timesL l pr polls) fin))[k]? = some (strE l (timesL l pr polls) fin k):=by simp [hlt]
      have hnx:=spread_next (l:=l) (pr:=pr) (polls:=polls) (fin:=fin) (n:=k);have hcl:=spread_len (l:=l) (pr:=pr) (polls:=polls) (fin:=fin) k;have hsl:=str_len (l:=l) (T:=timesL l pr polls k) (fin:=fin);have hkl:k*l.length≤64*400:=Nat.mul_le_mul (by omega) hVf;rw [hostC] at hnx;have hrg:=fun x (hx:x∈strC l (timesL l pr polls k) fin)=>str_range (times_in V.times hp3) hx;refine gO Tryz.func17 ?_;refine elemP_at (e:=strE l (timesL l pr polls) fin k) (at_list hge2) rfl ?_;refine gO Tryz.func17 ?_;generalize hC:strC l (timesL l pr polls k) fin=C at *;generalize hX:spreadTo l pr polls fin k=X at *;refine AWL.loop (κ:=Nat) ([18,22,23]++rg 122 22) (fun j=>[(122,.d (.int .i64 j)),(18,.own 2 1)]) (fun j=>[(2,.arr 1 (45,5) ((X++goC l k (C.take j)).map Copy.enc))]) (fun j=>j≤C.length) (fun j=>C.length - j) 0 (Nat.zero_le _) ?_ ?_
      ·(conv=>whnf);repeat (first | exact trivial | (refine sI ?_; conv=>whnf))
       refine And.intro (by simp [goC]) ?_;(conv=>whnf);repeat (first | exact trivial | (refine sI ?_; conv=>whnf))
      intro j hj IH2;refine AWL.head E_ok Tryz.func17 2000 ?_;(conv=>whnf);refine caseB_split (fun h6=>?_) (fun h6=>?_)
      ·have hlt2:j<C.length:=by simpa using h6
       obtain ⟨x,hx⟩:=some_of_lt hlt2;obtain ⟨r1,r2,r3,r4,r5⟩:=hrg x (List.mem_of_getElem? hx);obtain ⟨v,hv⟩:=some_of_lt (l:=l) (k:=x.ver.toNat) (by omega);have A1:At1 (l.map Version.enc) x.ver v.enc:=by
        have:=at_map (f:=Version.enc) hv
        rwa [Int.toNat_of_nonneg r4] at this
       have hza:zoneA l x.ver=v.zone:=by rw [zoneA,hv]
       refine gO Tryz.func17 ?_;refine elemP_at (e:=x.enc) (at_map (show (strC l (timesL l pr polls k) fin)[j]? = some x by rw [hC]; exact hx)) rfl ?_;refine gO Tryz.func17 ?_;refine elemP_at (e:=v.enc) A1 rfl ?_;refine gO Tryz.func17 ?_;refine callP_eq (cloneZone_p v.zone (zoneR_short (V.zones v (List.mem_of_getElem? hv)))) ?_;refine gO Tryz.func17 ?_;refine need_intro ⟨by simp only [List.length_map,List.length_append,goC,List.length_take,List.length_cons,List.length_nil]; omega,by simp [DV.cells]⟩ ?_;refine gO Tryz.func17 ?_;refine AWL.back (IH2 (j+1) (by omega) (by omega)) ?_;(conv=>whnf);repeat (first | exact trivial | (refine sI ?_; conv=>whnf))
       refine And.intro (by rw [take_next hx]; simp [goC,hza]) ?_;(conv=>whnf);repeat (first | exact trivial | (refine sI ?_; conv=>whnf))
      ·have hge:C.length≤j:=by simpa [hC] using h6
       rw [List.take_of_length_le hge];refine gO Tryz.func17 ?_;refine AWL.back (IH (k+1) (by omega) (by omega)) ?_;(conv=>whnf);repeat (first | exact trivial | (refine sI ?_; conv=>whnf))
       refine And.intro (by rw [hnx]; rfl) ?_;(conv=>whnf);repeat (first | exact trivial | (refine sI ?_; conv=>whnf))
     ·have hge : 64 = k := by have : ¬ (k : Int) < 64 := by simpa using h5
                              omega
      subst hge;refine gO Tryz.func17 ?_;rfl
end Go.Proofs.YthikfaephakahaaGreatDoor.P
