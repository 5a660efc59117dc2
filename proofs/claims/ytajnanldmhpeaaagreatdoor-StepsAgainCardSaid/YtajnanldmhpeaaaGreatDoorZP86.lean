/- The law StepsServed: the walk. Conditions: what Go allows of the arguments. -/
import Derived.Test.YtajnanldmhpeaaaGreatDoorZP85
set_option linter.unusedVariables false
set_option linter.unusedSimpArgs false
namespace Go.Proofs.YtajnanldmhpeaaaGreatDoor.P
open Go Go.Eng
set_option maxRecDepth 100000
set_option maxHeartbeats 4000000
theorem after_few {w:Wld} {s:Stage} (hw:worldB w=true) (hs:stageB w.hosts.length s=true) (h1:w.zones.length+s.puts.length≤500):worldN w s=0:=by
 refine worldN_zero.2 ⟨hw,hs,manyP_no.2 ⟨?_,?_⟩⟩
 ·have:=after_len (l:=w.zones) (s:=s); omega
 ·have:=after_len (l:=w.zones) (s:=s);have h2:=nub_le_len (a:=(afterL w.zones s).map (·.zone.apex));rw [List.length_map] at h2;unfold apexP;omega
theorem at_fits {h:History} {t:Int} (hf:h.Fits):(atW h t).Fits:=by
 unfold atW;split
 ·refine ⟨hf.hosts,hf.anchor,hf.hints,fun p hp=>?_⟩;obtain ⟨c,hc,_,_,rfl⟩:=served_mem hp;exact hf.zones c hc
 ·exact ⟨fun x hx=>by simp [zeroW] at hx,⟨maxLen_big (by simp [zeroW]),by simp [zeroW],fun d hd=>by simp [zeroW] at hd⟩,maxLen_big (by simp [zeroW]),fun c hc=>by simp [zeroW] at hc⟩
theorem world_fits {w:Wld} {s:Stage} (hf:w.Fits) (hs:s.Fits) (h0:worldN w s=0):(worldS w s).Fits:=by
 rw [worldS_zero h0];refine ⟨hf.hosts,hf.anchor,hf.hints,fun p hp=>?_⟩;rcases after_mem.1 hp with ⟨h1,_⟩ | ⟨h1,_⟩
 ·exact hf.zones p h1
 ·exact hs.zones p h1
theorem stepsServed_p (h:History) (l:List Step) (t:Int) (hg:h.Good) (hlg:∀ s∈l,s.Good):PCalls E 8 [h.enc,.sl (l.map Step.enc),.int .i64 t] (· = .bool true):=by
 refine eP Tryz.func8 ?_
 with_reducible refine callP_eq (head35_p) ?_
 refine gO Tryz.func8 ?_
 with_reducible refine callP_eq (usable35_p h l hg hlg) ?_
 refine gO Tryz.func8 ?_;cases hu:useB h l
 ·repeat' (first | with_reducible refine cY ?_ | with_reducible refine cN ?_ | with_reducible refine caseB_split (fun _=>?_) (fun _=>?_) | refine gA Tryz.func8 ?_ | refine gB ?_ | refine gC ?_ | with_reducible rfl)
 have U:=use35_of hg hlg hu;have hk:=U.hk1;refine caseB_false ?_;refine gO Tryz.func8 ?_;refine caseB_split (fun t1=>?_) (fun t1=>?_)
 ·repeat' (first | with_reducible refine cY ?_ | with_reducible refine cN ?_ | with_reducible refine caseB_split (fun _=>?_) (fun _=>?_) | refine gA Tryz.func8 ?_ | refine gB ?_ | refine gC ?_ | with_reducible rfl)
 have t1:0≤t:=by simpa using t1
 refine gO Tryz.func8 ?_;refine caseB_split (fun t2=>?_) (fun t2=>?_)
 ·repeat' (first | with_reducible refine cY ?_ | with_reducible refine cN ?_ | with_reducible refine caseB_split (fun _=>?_) (fun _=>?_) | refine gA Tryz.func8 ?_ | refine gB ?_ | refine gC ?_ | with_reducible rfl)
 have t2:t<h.fin:=by simpa using t2
 have c1:=apply_p h l U.hf (by omega) U.ls;refine gO Tryz.func8 ?_;refine callP_eq (c1) ?_;refine gO Tryz.func8 ?_;by_cases h0:applyN h l=0
 case neg =>
  have h2:applyN h l=2:=(applyN_two U.valid).resolve_left h0;rw [h2];repeat' (first | with_reducible refine cY ?_ | with_reducible refine cN ?_ | with_reducible refine caseB_split (fun _=>?_) (fun _=>?_) | refine gA Tryz.func8 ?_ | refine gB ?_ | refine gC ?_ | with_reducible rfl)
  rfl
 have hv2:=apply_valid h0;have hx:=applyH_zero h0;have hl2:=apply_lens2 U;have hf2:(applyH h l).Fits:=apply_fits2 U;have n1:atN (applyH h l) t=0:=atN_zero.2 ⟨hv2,t1,by rw [hx]; exact t2⟩;have n2:atN h t=0:=atN_zero.2 ⟨U.hist,t1,t2⟩;have c2:=at_p (applyH h l) t hf2 hl2.copies;have c3:=at_p h t U.hf (by omega);have e2:atW (applyH h l) t=⟨h.hosts,servedL (runS h.fin h.copies l) t,h.anchor,h.hints⟩:=by rw [atW,if_pos n1,hx]
 have e3:atW h t=⟨h.hosts,servedL h.copies t,h.anchor,h.hints⟩:=by rw [atW,if_pos n2]
 have v3:=at_valid n2;have f3:=at_fits (t:=t) U.hf;rw [n1,e2] at c2;rw [n2,e3] at c3;rw [e3] at v3 f3;have hrun:=served_run t2 l h.copies;have c4:=upTo_p l t (by have:=U.ll; omega);rw [h0];refine caseB_no (by decide) ?_;refine gO Tryz.func8 ?_;refine callP_eq (c2) ?_;refine gO Tryz.func8 ?_;refine callP_eq (c3) ?_;refine gO Tryz.func8 ?_;refine caseB_no (by decide) ?_;refine gO Tryz.func8 ?_;refine caseB_no (by decide) ?_;refine gO Tryz.func8 ?_;refine callP_eq (c4) ?_;refine gO Tryz.func8 ?_;have hL:∀ s∈l.filter (fun s=>decide (s.time≤t)),s∈l:=fun s hs=>(List.mem_filter.1 hs).1;have hLl:(l.filter (fun s=>decide (s.time≤t))).length≤20:=by
  have:=List.length_filter_le (fun s:Step=>decide (s.time≤t)) l;have:=U.ll;omega
 have hst:=(validS_iff.1 U.valid).2.2.1;have hz0:(servedL h.copies t).length≤20:=by have:=served_len (cs:=h.copies) (t:=t); omega
 generalize hLd:l.filter (fun s=>decide (s.time≤t))=L at *;generalize hZ0:servedL h.copies t=Z0 at *;refine AWL.loop (κ:=Nat) ([6,15,16,17]++rg 69 15) (fun k=>[(69,.d (.int .i64 k))]) (fun k=>[(3,.cells [.d (.sl (h.hosts.map Host.enc)),.d (.sl (((L.take k).foldl (fun z s=>afterL z s.stage) Z0).map Placed.enc)),.d (.str h.anchor.name),.d (.int .i64 h.anchor.type),.d (.int .i64 h.anchor.life),.d (.sl (h.anchor.data.map Datum.enc)),.d (.sl (h.hints.map (.int .i64)))])])
  (fun k=>k≤L.length∧worldB ⟨h.hosts,(L.take k).foldl (fun z s=>afterL z s.stage) Z0,h.anchor,h.hints⟩=true∧(⟨h.hosts,(L.take k).foldl (fun z s=>afterL z s.stage) Z0,h.anchor,h.hints⟩:Wld).Fits∧((L.take k).foldl (fun z s=>afterL z s.stage) Z0).length≤20+20*k) (fun k=>L.length - k) 0 ⟨Nat.zero_le _,v3,f3,by simpa using hz0⟩ ?_ ?_
 ·(conv=>whnf);repeat (first | exact trivial | (refine sI ?_; conv=>whnf))
  refine And.intro rfl ?_;(conv=>whnf);repeat (first | exact trivial | (refine sI ?_; conv=>whnf))
 rintro k ⟨hk1,hk2,hk3,hk4⟩ IH;refine AWL.head E_ok Tryz.func8 2000 ?_;(conv=>whnf);refine caseB_split (fun h5=>?_) (fun h5=>?_)
 ·have hlt:k<L.length:=by simpa using h5
  obtain ⟨x,hx⟩:=some_of_lt hlt;have hxl:=hL x (List.mem_of_getElem? hx);have hnx:(L.take (k+1)).foldl (fun z s=>afterL z s.stage) Z0=afterL ((L.take k).foldl (fun z s=>afterL z s.stage) Z0) x.stage:=by
   rw [take_next hx,List.foldl_append]; rfl
  generalize (L.take k).foldl (fun z s=>afterL z s.stage) Z0=Z at *;have hp:=U.puts x hxl;have w0:worldN ⟨h.hosts,Z,h.anchor,h.hints⟩ x.stage=0:=after_few hk2 (hst x hxl).2.2 (by show Z.length+_≤500; omega);have c5:=world_p ⟨h.hosts,Z,h.anchor,h.hints⟩ x.stage hk3 (U.ls.each x hxl);have w1:=world_valid w0;have w2:=world_fits hk3 (U.ls.each x hxl) w0;rw [worldS_zero w0] at w1 w2;rw [w0,worldS_zero w0] at c5;refine gO Tryz.func8 ?_;refine elemP_at (e:=x.enc) (at_map hx) rfl ?_;refine gO Tryz.func8 ?_;refine callP_eq (c5) ?_;refine gO Tryz.func8 ?_;refine caseB_no (by decide) ?_;refine gO Tryz.func8 ?_;refine AWL.back (IH (k+1) ⟨by omega,by rw [hnx]; exact w1,by rw [hnx]; exact w2,by rw [hnx]; have:=after_len (l:=Z) (s:=x.stage); omega⟩ (by omega)) ?_;rw [hnx];(conv=>whnf);repeat (first | exact trivial | (refine sI ?_; conv=>whnf))
 ·have hge:L.length≤k:=by simpa using h5
  rw [List.take_of_length_le hge,← hrun]
  have c6:=rsameWorld_p ⟨h.hosts,servedL (runS h.fin h.copies l) t,h.anchor,h.hints⟩ ⟨h.hosts,servedL (runS h.fin h.copies l) t,h.anchor,h.hints⟩ ⟨U.hl.hosts,by
    have h1:=hl2.copies;rw [hx] at h1;have h2:=served_len (cs:=runS h.fin h.copies l) (t:=t);exact Nat.le_trans h2 h1,U.hl.hints,U.hl.anchor,fun p hp=>by
    obtain ⟨c,hc,_,_,rfl⟩:=served_mem hp;have h1:=hl2.zones;rw [hx] at h1;exact h1 c hc⟩ (by
    have h1:=hl2.copies;rw [hx] at h1;have h2:=served_len (cs:=runS h.fin h.copies l) (t:=t)
    exact Nat.le_trans h2 h1)
  rw [sameWB_refl] at c6;clear IH;refine gO Tryz.func8 ?_;refine caseB_true ?_;refine gO Tryz.func8 ?_;refine callP_eq (c6) ?_;refine gO Tryz.func8 ?_
  with_reducible rfl
theorem stepsServed_g (h:History) (l:List Step) (t:Int) (g0:h.Good) (g1:l.length≤maxLen∧∀ a∈l,Step.Good a) (_:I64 t):PCalls E 8 [h.enc,.sl (l.map Step.enc),.int .i64 t] (· = .bool true):=stepsServed_p h l t g0 g1.2
end Go.Proofs.YtajnanldmhpeaaaGreatDoor.P
