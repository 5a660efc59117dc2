/- The law StepsAgain: the walk. Conditions: what Go allows of the arguments. -/
import Derived.Test.YtajnanldmhpeaaaGreatDoorZP86
set_option linter.unusedVariables false
set_option linter.unusedSimpArgs false
namespace Go.Proofs.YtajnanldmhpeaaaGreatDoor.P
open Go Go.Eng
set_option maxRecDepth 100000
set_option maxHeartbeats 4000000
theorem stop_in {n:Nat} {s:Stage} {p:Placed} (h:stageB n s=true) (hp:p∈s.puts):p.zone.sets.isEmpty=stopB p.zone:=by
 have:=(stageB_iff.1 h).2.1 p hp;simp only [putOK,Bool.and_eq_true,Bool.or_eq_true] at this;rcases this.2 with h1 | h1
 ·rw [h1];unfold stopB at h1;simp only [Bool.and_eq_true] at h1;exact h1.1.1
 ·have h2:=zoneR_sets h1;have h3:p.zone.sets.isEmpty=false:=by
   cases hs:p.zone.sets with
   |nil=>exact absurd hs h2
   |cons a b=>rfl
  rw [h3];unfold stopB;rw [h3];rfl
theorem fewW_of {w:Wld} (hg:w.Good) (hf:fewW w=true):w.Fits∧w.zones.length≤20∧w.hints.length≤1000000∧w.Lens:=by
 simp only [fewW,fewL,Bool.and_eq_true,decide_eq_true_eq] at hf;obtain ⟨⟨h1,h2⟩,⟨⟨h3,h4⟩,h5⟩,h6⟩:=hf;rw [List.take_of_length_le (by omega)] at h1 h2;obtain ⟨g1,g2,g3,g4⟩:=hg;have hz:∀ c∈w.zones,c.zone.Fits∧c.zone.Short∧c.zone.Lens:=fun c hc=>by
  have:=List.all_eq_true.1 h1 c hc;simp only [fewPl,Bool.and_eq_true] at this;exact fewZ_of (g2.2 c hc).2 this.1
 refine ⟨⟨fun x hx=>(g1.2 x hx).1,⟨g3.1,by omega,fun d hd=>(g3.2.2.2.2 d hd).1⟩,g4.1,fun c hc=>(hz c hc).1⟩,h3,by omega,⟨by omega,by omega,by omega,by omega,fun c hc=>(hz c hc).2.2⟩⟩
theorem fewStage_of {s:Stage} (hg:s.Good) (hf:fewStageB s=true):s.Fits∧s.puts.length≤20∧∀ x∈s.puts,x.zone.Fits∧x.zone.Short∧x.zone.Lens:=by
 simp only [fewStageB,Bool.and_eq_true,decide_eq_true_eq] at hf;have hz:∀ x∈s.puts,x.zone.Fits∧x.zone.Short∧x.zone.Lens:=fun x hx=>fewZ_of (hg.2 x hx).2 (List.all_eq_true.1 hf.2 x hx);exact ⟨⟨fun x hx=>(hz x hx).1,by omega⟩,hf.1,hz⟩
theorem world_lens {w:Wld} {s:Stage} (hl:w.Lens) (hs:s.puts.length≤20) (hw:w.zones.length≤20) (hz:∀ x∈s.puts,x.zone.Lens) (h0:worldN w s=0):(worldS w s).Lens:=by
 rw [worldS_zero h0];refine ⟨hl.hosts,?_,hl.hints,hl.anchor,fun p hp=>?_⟩
 ·have:=after_len (l:=w.zones) (s:=s);show (afterL w.zones s).length≤_;omega
 ·rcases after_mem.1 hp with ⟨h1,_⟩ | ⟨h1,_⟩
  ·exact hl.each p h1
  ·exact hz p h1
theorem stepsAgain_p (w:Wld) (s:Stage) (hg:w.Good) (hsg:s.Good):PCalls E 13 [w.enc,s.enc] (· = .bool true):=by
 have c1:=rfew16_p w;have c2:=rfewStage_p s;refine eP Tryz.func13 ?_
 with_reducible refine callP_eq (head35_p) ?_
 refine gO Tryz.func13 ?_
 with_reducible refine callP_eq (c1) ?_
 refine gO Tryz.func13 ?_;cases h1:fewW w
 ·repeat' (first | with_reducible refine cY ?_ | with_reducible refine cN ?_ | with_reducible refine caseB_split (fun _=>?_) (fun _=>?_) | refine gA Tryz.func13 ?_ | refine gB ?_ | refine gC ?_ | with_reducible rfl)
 obtain ⟨hf,hk1,hk2,hhl⟩:=fewW_of hg h1;refine caseB_false ?_;refine gO Tryz.func13 ?_
 with_reducible refine callP_eq (c2) ?_
 refine gO Tryz.func13 ?_;cases h2:fewStageB s
 ·repeat' (first | with_reducible refine cY ?_ | with_reducible refine cN ?_ | with_reducible refine caseB_split (fun _=>?_) (fun _=>?_) | refine gA Tryz.func13 ?_ | refine gB ?_ | refine gC ?_ | with_reducible rfl)
 obtain ⟨sf,sl,sz⟩:=fewStage_of hsg h2;have c3:=rworldValid_p w hf hk2;have c4:=rstage_p s (w.hosts.map Host.enc).length sf;rw [show stageB (w.hosts.map Host.enc).length s=stageB w.hosts.length s by rw [List.length_map]] at c4;refine caseB_false ?_;refine gO Tryz.func13 ?_
 with_reducible refine callP_eq (c3) ?_
 refine gO Tryz.func13 ?_;cases h3:worldB w
 ·repeat' (first | with_reducible refine cY ?_ | with_reducible refine cN ?_ | with_reducible refine caseB_split (fun _=>?_) (fun _=>?_) | refine gA Tryz.func13 ?_ | refine gB ?_ | refine gC ?_ | with_reducible rfl)
 refine caseB_false ?_;refine gO Tryz.func13 ?_
 with_reducible refine callP_eq (c4) ?_
 refine gO Tryz.func13 ?_;cases h4:stageB w.hosts.length s
 ·repeat' (first | with_reducible refine cY ?_ | with_reducible refine cN ?_ | with_reducible refine caseB_split (fun _=>?_) (fun _=>?_) | refine gA Tryz.func13 ?_ | refine gB ?_ | refine gC ?_ | with_reducible rfl)
 refine caseB_false ?_;refine gO Tryz.func13 ?_;have w0:=after_few h3 h4 (by omega);obtain ⟨a1,a2⟩:=world_again w0;have hwf:=world_fits hf sf w0;have hwl:=world_lens hhl sl hk1 (fun x hx=>(sz x hx).2.2) w0;have hwv:=world_valid w0;have c5:=world_p w s hf sf;have c6:=world_p (worldS w s) s hwf sf;have c7:=rsameWorld_p (worldS w s) (worldS w s) hwl hwl.zones;have c8:=rworldValid_p (worldS w s) hwf hwl.hints;rw [w0] at c5;rw [a1,a2] at c6;rw [sameWB_refl] at c7;rw [hwv] at c8;have hz:(worldS w s).zones=afterL w.zones s:=by rw [worldS_zero w0]
 have hzl:=hwl.zones;have haf:=fun p hp=>after_found (w:=w) (p:=p) h4 hp;rw [← hz] at haf;have hst:=fun p hp=>stop_in (p:=p) h4 hp;generalize worldS w s=X at *;refine callP_eq (c5) ?_;refine gO Tryz.func13 ?_;refine caseB_no (by decide) ?_;refine gO Tryz.func13 ?_;refine callP_eq (c6) ?_;refine gO Tryz.func13 ?_;refine caseB_no (by decide) ?_;refine gO Tryz.func13 ?_;refine callP_eq (c7) ?_;refine gO Tryz.func13 ?_;refine caseB_false ?_;refine gO Tryz.func13 ?_;refine callP_eq (c8) ?_;refine gO Tryz.func13 ?_;refine caseB_false ?_;refine gO Tryz.func13 ?_;refine AWL.loop (κ:=Nat) ([4,5,11,12,14]++rg 73 39) (fun k=>[(73,.d (.int .i64 k)),(5,.d (.bool true))]) (fun _=>[]) (fun k=>k≤s.puts.length) (fun k=>s.puts.length - k) 0 (Nat.zero_le _) ?_ ?_
 ·(conv=>whnf);repeat (first | exact trivial | (refine sI ?_; conv=>whnf))
 intro k hk IH;refine AWL.head E_ok Tryz.func13 2000 ?_;(conv=>whnf);refine caseB_split (fun h5=>?_) (fun h5=>?_)
 ·have hlt:k<s.puts.length:=by simpa using h5
  obtain ⟨p,hp⟩:=some_of_lt hlt;have hpm:=List.mem_of_getElem? hp;have c9:=rstop_p p;have c10:=rsameZone_p p.zone p.zone (sz p hpm).2.2;rw [decide_eq_true rfl] at c10;rw [hst p hpm] at c9;obtain ⟨f1,f2⟩:=haf p hpm;refine gO Tryz.func13 ?_;refine elemP_at (e:=p.enc) (at_map hp) rfl ?_;refine gO Tryz.func13 ?_;refine AWL.loop (κ:=Nat) ([5,12,14]++rg 80 27) (fun k=>[(80,.d (.int .i64 k)),(5,.d (.bool true)),(12,.d (.bool ((X.zones.take k).any fun z=>decide (z.spot=p.spot))))]) (fun _=>[]) (fun k=>k≤X.zones.length) (fun k=>X.zones.length - k) 0 (Nat.zero_le _) ?_ ?_
  ·(conv=>whnf);repeat (first | exact trivial | (refine sI ?_; conv=>whnf))
   refine And.intro rfl ?_;(conv=>whnf);repeat (first | exact trivial | (refine sI ?_; conv=>whnf))
  intro j hj JH;refine AWL.head E_ok Tryz.func13 2000 ?_;(conv=>whnf);refine caseB_split (fun h6=>?_) (fun h6=>?_)
  ·have hjlt:j<X.zones.length:=by simpa using h6
   obtain ⟨z,hz⟩:=some_of_lt hjlt;have hnx:=anyP_next (P:=fun z:Placed=>decide (z.spot=p.spot)) hz;refine gO Tryz.func13 ?_;refine elemP_at (e:=z.enc) (at_map hz) rfl ?_;refine gO Tryz.func13 ?_;by_cases hs:z.spot=p.spot
   ·obtain ⟨rfl,-⟩:=f1 z (List.mem_of_getElem? hz) hs;rw [decide_eq_true rfl,Bool.or_true] at hnx;refine caseB_yes (by simp) ?_;refine gO Tryz.func13 ?_;refine caseB_yes (by simp) ?_;refine gO Tryz.func13 ?_;refine caseB_true ?_;refine gO Tryz.func13 ?_;refine callP_eq (c10) ?_;refine gO Tryz.func13 ?_;refine AWL.back (JH (j+1) (by omega) (by omega)) ?_;rw [hnx];(conv=>whnf);repeat (first | exact trivial | (refine sI ?_; conv=>whnf))
   ·rw [decide_eq_false hs,Bool.or_false] at hnx;refine caseB_split (fun h7=>?_) (fun h7=>?_)
    ·refine gO Tryz.func13 ?_
     refine caseB_no (by
      rw [Bool.eq_false_iff];intro h8
      exact hs (by simp [Placed.spot]; exact ⟨by simpa using h7,by simpa using h8⟩)) ?_
     refine gO Tryz.func13 ?_;refine AWL.back (JH (j+1) (by omega) (by omega)) ?_;rw [hnx];(conv=>whnf);repeat (first | exact trivial | (refine sI ?_; conv=>whnf))
    ·refine gO Tryz.func13 ?_;refine caseB_false ?_;refine gO Tryz.func13 ?_;refine AWL.back (JH (j+1) (by omega) (by omega)) ?_;rw [hnx];(conv=>whnf);repeat (first | exact trivial | (refine sI ?_; conv=>whnf))
  ·have hge:X.zones.length≤j:=by simpa using h6
   rw [List.take_of_length_le hge];clear JH;have hfd:(X.zones.any fun z=>decide (z.spot=p.spot)) = !stopB p.zone:=by
    cases hb:stopB p.zone
    ·exact List.any_eq_true.2 ⟨p,f2 hb,decide_eq_true rfl⟩
    ·show _=false;rw [Bool.eq_false_iff];intro h8;obtain ⟨z,hz1,hz2⟩:=List.any_eq_true.1 h8;have:=(f1 z hz1 (by simpa using hz2)).2;rw [hb] at this;cases this
   rw [hfd];refine gO Tryz.func13 ?_;refine callP_eq (c9) ?_;refine gO Tryz.func13 ?_;refine caseB_no (by cases stopB p.zone <;> rfl) ?_;refine gO Tryz.func13 ?_;refine AWL.back (IH (k+1) (by omega) (by omega)) ?_;(conv=>whnf);repeat (first | exact trivial | (refine sI ?_; conv=>whnf))
 ·refine gO Tryz.func13 ?_
  with_reducible rfl
theorem stepsAgain_g (w:Wld) (s:Stage) (g0:w.Good) (g1:s.Good):PCalls E 13 [w.enc,s.enc] (· = .bool true):=stepsAgain_p w s g0 g1
end Go.Proofs.YtajnanldmhpeaaaGreatDoor.P
