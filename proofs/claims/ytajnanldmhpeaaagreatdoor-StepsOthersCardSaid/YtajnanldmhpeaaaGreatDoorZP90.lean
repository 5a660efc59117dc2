/- The law StepsOthers: the walk. Conditions: what Go allows of the arguments. -/
import Derived.Test.YtajnanldmhpeaaaGreatDoorZP85
import Derived.Test.YtajnanldmhpeaaaGreatDoorZEngEE
set_option linter.unusedVariables false
set_option linter.unusedSimpArgs false
namespace Go.Proofs.YtajnanldmhpeaaaGreatDoor.P
open Go Go.Eng
set_option maxRecDepth 100000
set_option maxHeartbeats 4000000
def spotsL (l:List Step):List Spot:=l.flatMap fun s=>s.stage.puts.map Placed.spot
theorem spotsL_next {l:List Step} {k:Nat} {s:Step} (h:l[k]? = some s):spotsL (l.take (k+1))=spotsL (l.take k)++s.stage.puts.map Placed.spot:=by
 rw [take_next h,spotsL,List.flatMap_append];simp [spotsL]
def oth (M:List Spot) (c:Copy):Bool := !decide (c.spot∈M)
theorem stepsOthers_p (h:History) (l:List Step) (hg:h.Good) (hlg:∀ s∈l,s.Good):PCalls E 11 [h.enc,.sl (l.map Step.enc)] (· = .bool true):=by
 refine eP Tryz.func11 ?_
 with_reducible refine callP_eq (head35_p) ?_
 refine gO Tryz.func11 ?_
 with_reducible refine callP_eq (usable35_p h l hg hlg) ?_
 refine gO Tryz.func11 ?_;cases hu:useB h l
 ·repeat' (first | with_reducible refine cY ?_ | with_reducible refine cN ?_ | with_reducible refine caseB_split (fun _=>?_) (fun _=>?_) | refine gA Tryz.func11 ?_ | refine gB ?_ | refine gC ?_ | with_reducible rfl)
 have U:=use35_of hg hlg hu;have hk:=U.hk1;have hll:=U.ll;refine caseB_false ?_;refine gO Tryz.func11 ?_;have c1:=apply_p h l U.hf (by omega) U.ls;refine callP_eq (c1) ?_;refine gO Tryz.func11 ?_;by_cases h0:applyN h l=0
 case neg =>
  have h2:applyN h l=2:=(applyN_two U.valid).resolve_left h0;rw [h2];repeat' (first | with_reducible refine cY ?_ | with_reducible refine cN ?_ | with_reducible refine caseB_split (fun _=>?_) (fun _=>?_) | refine gA Tryz.func11 ?_ | refine gB ?_ | refine gC ?_ | with_reducible rfl)
  rfl
 have hx:=applyH_zero h0;have hl2:=apply_lens2 U;have hoth:=others_run (fin:=h.fin) (M:=spotsL l) (l:=l) (cs:=h.copies) (fun s hs p hp=>List.mem_flatMap.2 ⟨s,hs,List.mem_map.2 ⟨p,hp,rfl⟩⟩);have hxl:(applyH h l).copies=runS h.fin h.copies l:=by rw [hx]
 have hxc:(applyH h l).copies.length≤1000000:=hl2.copies;have hsame:({ h with copies:=h.copies.filter (oth (spotsL l)) }:History)={ applyH h l with copies:=(applyH h l).copies.filter (oth (spotsL l)) }:=by
  rw [hx];show _=({ h with copies:=(runS h.fin h.copies l).filter (oth (spotsL l)) }:History);have:(runS h.fin h.copies l).filter (oth (spotsL l))=h.copies.filter (oth (spotsL l)):=hoth;rw [this]
 have s1:=rsame35_p { h with copies:=h.copies.filter (oth (spotsL l)) } { applyH h l with copies:=(applyH h l).copies.filter (oth (spotsL l)) } ⟨U.hl.hosts,Nat.le_trans (List.length_filter_le ..) U.hl.copies,U.hl.hints,U.hl.anchor,fun c hc=>U.hl.zones c (List.mem_filter.1 hc).1⟩;rw [decide_eq_true hsame] at s1;clear hsame hoth;rw [h0];generalize applyH h l=X at *;refine caseB_no (by decide) ?_;refine gO Tryz.func11 ?_;refine gO Tryz.func11 ?_;refine AWL.loop (κ:=Nat) ([10,12]++rg 41 21) (fun k=>[(41,.d (.int .i64 k)),(8,.map 2)]) (fun k=>[(2,.map (setM Spot.en (spotsL (l.take k))))]) (fun k=>k≤l.length) (fun k=>l.length - k) 0 (Nat.zero_le _) ?_ ?_
 ·(conv=>whnf);repeat (first | exact trivial | (refine sI ?_; conv=>whnf))
  refine And.intro rfl ?_;(conv=>whnf);repeat (first | exact trivial | (refine sI ?_; conv=>whnf))
 intro k hk IH;refine AWL.head E_ok Tryz.func11 2000 ?_;(conv=>whnf);refine caseB_split (fun h5=>?_) (fun h5=>?_)
 ·have hlt:k<l.length:=by simpa using h5
  obtain ⟨s,hs⟩:=some_of_lt hlt;have hnx:=spotsL_next hs;have hsl:=(U.ls.each s (List.mem_of_getElem? hs)).few;refine gO Tryz.func11 ?_;refine elemP_at (e:=s.enc) (at_map hs) rfl ?_;refine gO Tryz.func11 ?_;refine AWL.loop (κ:=Nat) ([12]++rg 49 12) (fun j=>[(49,.d (.int .i64 j)),(8,.map 2)]) (fun j=>[(2,.map (setM Spot.en (spotsL (l.take k)++(s.stage.puts.take j).map Placed.spot)))]) (fun j=>j≤s.stage.puts.length) (fun j=>s.stage.puts.length - j) 0 (Nat.zero_le _) ?_ ?_
  ·(conv=>whnf);repeat (first | exact trivial | (refine sI ?_; conv=>whnf))
   refine And.intro (by simp) ?_;(conv=>whnf);repeat (first | exact trivial | (refine sI ?_; conv=>whnf))
  intro j hj JH;refine AWL.head E_ok Tryz.func11 2000 ?_;(conv=>whnf);refine caseB_split (fun h6=>?_) (fun h6=>?_)
  ·have hjlt:j<s.stage.puts.length:=by simpa using h6
   obtain ⟨p,hp⟩:=some_of_lt hjlt;have hkeys:=(setM_ok keyEq_spot (spotsL (l.take k)++(s.stage.puts.take j).map Placed.spot)).1;have hnp:=spots_next hp;refine gO Tryz.func11 ?_;refine elemP_at (e:=p.enc) (at_map hp) rfl ?_;refine gO Tryz.func11 ?_;refine need_intro ⟨⟨_,rfl,rfl,⟨_,rfl,_,rfl⟩,rfl,⟨_,rfl,_,rfl⟩,trivial⟩,fit_pairs hkeys⟩ ?_;refine gO Tryz.func11 ?_;refine AWL.back (JH (j+1) (by omega) (by omega)) ?_;rw [hnp,← List.append_assoc,setM_snoc];(conv=>whnf);repeat (first | exact trivial | (refine sI ?_; conv=>whnf))
   refine And.intro rfl ?_;(conv=>whnf);repeat (first | exact trivial | (refine sI ?_; conv=>whnf))
  ·have hge:s.stage.puts.length≤j:=by simpa using h6
   rw [List.take_of_length_le hge,← hnx];clear JH;refine gO Tryz.func11 ?_;refine AWL.back (IH (k+1) (by omega) (by omega)) ?_;(conv=>whnf);repeat (first | exact trivial | (refine sI ?_; conv=>whnf))
 ·have hge:l.length≤k:=by simpa using h5
  rw [List.take_of_length_le hge];clear IH;refine gO Tryz.func11 ?_;refine AWL.drawGB E_ok E_mixed 2 [0,1] 2000 (by kernel_rfl) ?_;(conv=>whnf);refine GWL.run E_ok 2000 rfl rfl ?_;(conv=>whnf);refine And.intro rfl ?_;(conv=>whnf);refine GWL.run E_ok 2000 rfl rfl ?_;(conv=>whnf);refine And.intro rfl ?_;(conv=>whnf);refine GWL.run E_ok 2000 rfl rfl ?_;(conv=>whnf);refine And.intro rfl ?_;(conv=>whnf);refine GWL.run E_ok 2000 rfl rfl ?_;(conv=>whnf);refine And.intro rfl ?_;(conv=>whnf);refine GWL.run E_ok 2000 rfl rfl ?_;(conv=>whnf);refine gO Tryz.func11 ?_;have hkeys:=(setM_ok keyEq_spot (spotsL l)).1;have hhas:=setM_has keyEq_spot (spotsL l);have hm:∀ c:Copy,oth (spotsL l) c = !decide (c.spot∈spotsL l):=fun c=>rfl;generalize setM Spot.en (spotsL l)=M at *;generalize oth (spotsL l)=O at *;refine AWL.adoptCell 3 1 (83,5) (by decide) rfl rfl ?_;(conv=>whnf);refine AWL.loop (κ:=Nat) ([16]++rg 69 20) (fun k=>[(69,.d (.int .i64 k))]) (fun k=>[(3,.cells [.d (.sl (h.hosts.map Host.enc)),.own 5 1,.d (.str h.anchor.name),.d (.int .i64 h.anchor.type),.d (.int .i64 h.anchor.life),.d (.sl (h.anchor.data.map Datum.enc)),.d (.sl (h.hints.map (.int .i64))),.d (.int .i64 h.drift),.d (.int .i64 h.fin)]),(5,.arr 1 (83,5) (((h.copies.take k).filter O).map Copy.enc))]) (fun k=>k≤h.copies.length) (fun k=>h.copies.length - k) 0 (Nat.zero_le _) ?_ ?_
  ·(conv=>whnf);repeat (first | exact trivial | (refine sI ?_; conv=>whnf))
   refine And.intro rfl ?_;(conv=>whnf);repeat (first | exact trivial | (refine sI ?_; conv=>whnf))
  intro k hk IH;refine AWL.head E_ok Tryz.func11 2000 ?_;(conv=>whnf);refine caseB_split (fun h6=>?_) (fun h6=>?_)
  ·have hklt:k<h.copies.length:=by simpa using h6
   obtain ⟨c,hc⟩:=some_of_lt hklt;obtain ⟨hf1,hf2⟩:=hhas c.spot;have hnext:=filt_next (P:=O) hc;have hfl:=filt_len (P:=O) (l:=h.copies) (k:=k);refine gO Tryz.func11 ?_;refine elemP_at (e:=c.enc) (at_map hc) rfl ?_;refine gO Tryz.func11 ?_;refine lookP_intro (.bool false) (.bool false) ⟨_,rfl,rfl,⟨_,rfl,_,rfl⟩,rfl,⟨_,rfl,_,rfl⟩,trivial⟩ (fit_pairs hkeys) (fun w=>by kernel_rfl) (fun _ _ => .bool _) hf1 hf2 ?_;refine gO Tryz.func11 ?_;by_cases hd:¬ c.spot∈spotsL l
   ·have hO:O c=true:=by rw [hm]; simp [hd]
    rw [hO] at hnext;refine caseB_yes (by simp [hd]) ?_;refine gO Tryz.func11 ?_;refine need_intro ⟨by simp only [List.length_map,List.length_append,List.length_cons,List.length_nil]; omega,by simp [DV.cells]⟩ ?_;refine gO Tryz.func11 ?_;refine AWL.back (IH (k+1) (by omega) (by omega)) ?_;rw [hnext];(conv=>whnf);repeat (first | exact trivial | (refine sI ?_; conv=>whnf))
    refine And.intro (by simp) ?_;(conv=>whnf);repeat (first | exact trivial | (refine sI ?_; conv=>whnf))
   ·have hd:=Classical.not_not.mp hd;have hO:O c=false:=by rw [hm]; simp [hd]
    rw [hO] at hnext;refine caseB_no (by simp [hd]) ?_;refine gO Tryz.func11 ?_;refine AWL.back (IH (k+1) (by omega) (by omega)) ?_;rw [hnext];(conv=>whnf);repeat (first | exact trivial | (refine sI ?_; conv=>whnf))
    refine And.intro (by simp) ?_;(conv=>whnf);repeat (first | exact trivial | (refine sI ?_; conv=>whnf))
  ·have hge:h.copies.length≤k:=by simpa using h6
   rw [List.take_of_length_le hge];clear IH;refine AWL.freeze 5 ?_;(conv=>whnf);refine gO Tryz.func11 ?_;refine AWL.adoptCell 4 1 (83,5) (by decide) rfl rfl ?_;(conv=>whnf);refine AWL.loop (κ:=Nat) ([18]++rg 92 20) (fun k=>[(92,.d (.int .i64 k))]) (fun k=>[(4,.cells [.d (.sl (X.hosts.map Host.enc)),.own 6 1,.d (.str X.anchor.name),.d (.int .i64 X.anchor.type),.d (.int .i64 X.anchor.life),.d (.sl (X.anchor.data.map Datum.enc)),.d (.sl (X.hints.map (.int .i64))),.d (.int .i64 X.drift),.d (.int .i64 X.fin)]),(6,.arr 1 (83,5) (((X.copies.take k).filter O).map Copy.enc))]) (fun k=>k≤X.copies.length) (fun k=>X.copies.length - k) 0 (Nat.zero_le _) ?_ ?_
   ·(conv=>whnf);repeat (first | exact trivial | (refine sI ?_; conv=>whnf))
    refine And.intro rfl ?_;(conv=>whnf);repeat (first | exact trivial | (refine sI ?_; conv=>whnf))
   intro k hk IH;refine AWL.head E_ok Tryz.func11 2000 ?_;(conv=>whnf);refine caseB_split (fun h6=>?_) (fun h6=>?_)
   ·have hklt:k<X.copies.length:=by simpa using h6
    obtain ⟨c,hc⟩:=some_of_lt hklt;obtain ⟨hf1,hf2⟩:=hhas c.spot;have hnext:=filt_next (P:=O) hc;have hfl:=filt_len (P:=O) (l:=X.copies) (k:=k);refine gO Tryz.func11 ?_;refine elemP_at (e:=c.enc) (at_map hc) rfl ?_;refine gO Tryz.func11 ?_;refine lookP_intro (.bool false) (.bool false) ⟨_,rfl,rfl,⟨_,rfl,_,rfl⟩,rfl,⟨_,rfl,_,rfl⟩,trivial⟩ (fit_pairs hkeys) (fun w=>by kernel_rfl) (fun _ _ => .bool _) hf1 hf2 ?_;refine gO Tryz.func11 ?_;by_cases hd:¬ c.spot∈spotsL l
    ·have hO:O c=true:=by rw [hm]; simp [hd]
     rw [hO] at hnext;refine caseB_yes (by simp [hd]) ?_;refine gO Tryz.func11 ?_;refine need_intro ⟨by simp only [List.length_map,List.length_append,List.length_cons,List.length_nil]; omega,by simp [DV.cells]⟩ ?_;refine gO Tryz.func11 ?_;refine AWL.back (IH (k+1) (by omega) (by omega)) ?_;rw [hnext];(conv=>whnf);repeat (first | exact trivial | (refine sI ?_; conv=>whnf))
     refine And.intro (by simp) ?_;(conv=>whnf);repeat (first | exact trivial | (refine sI ?_; conv=>whnf))
    ·have hd:=Classical.not_not.mp hd;have hO:O c=false:=by rw [hm]; simp [hd]
     rw [hO] at hnext;refine caseB_no (by simp [hd]) ?_;refine gO Tryz.func11 ?_;refine AWL.back (IH (k+1) (by omega) (by omega)) ?_;rw [hnext];(conv=>whnf);repeat (first | exact trivial | (refine sI ?_; conv=>whnf))
     refine And.intro (by simp) ?_;(conv=>whnf);repeat (first | exact trivial | (refine sI ?_; conv=>whnf))
   ·have hge:X.copies.length≤k:=by simpa using h6
    rw [List.take_of_length_le hge];clear IH;refine AWL.freeze 6 ?_;(conv=>whnf);refine gO Tryz.func11 ?_;refine caseB_true ?_;refine gO Tryz.func11 ?_;refine callP_eq (s1) ?_;refine gO Tryz.func11 ?_
    with_reducible rfl
theorem stepsOthers_g (h:History) (l:List Step) (g0:h.Good) (g1:l.length≤maxLen∧∀ a∈l,Step.Good a):PCalls E 11 [h.enc,.sl (l.map Step.enc)] (· = .bool true):=stepsOthers_p h l g0 g1.2
end Go.Proofs.YtajnanldmhpeaaaGreatDoor.P
