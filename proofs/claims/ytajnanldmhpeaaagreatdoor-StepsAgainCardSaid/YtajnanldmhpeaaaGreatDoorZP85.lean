/- The law StepsValid: the walk; what few and valid histories and steps give. Conditions: what Go allows of the arguments. -/
import Derived.Test.YtajnanldmhpeaaaGreatDoorZP84
set_option linter.unusedVariables false
set_option linter.unusedSimpArgs false
namespace Go.Proofs.YtajnanldmhpeaaaGreatDoor.P
open Go Go.Eng
set_option maxRecDepth 100000
set_option maxHeartbeats 4000000
theorem PCalls.nil2 {f:FuncId} {a:DV} {R:DV→Prop} (H:PCalls E f [a,.sl []] R):PCalls E f [a,.nilsl] R:=by
 unfold PCalls at H ⊢;refine ⟨H.1,fun bar w vs h1 h2 h3=>H.2 bar w vs h1 h2 ⟨h3.1,fun j x v hx hv=>?_⟩⟩
 match j,hx with
 | 0,hx=>exact h3.2 0 x v hx hv
 | 1,hx =>
  simp at hx;subst hx;have:=h3.2 1 .nilsl v rfl hv;cases this;exact .slnil
def useB (h:History) (l:List Step):Bool:=(fewH h&&fewStepsB l)&&validS h l
theorem usable35_p (h:History) (l:List Step) (hg:h.Good) (hlg:∀ s∈l,s.Good):PCalls E 33 [h.enc,.sl (l.map Step.enc)] (· = .bool (useB h l)):=by
 have c1:=few35_p h l;unfold useB;refine eP Tryz.func33 ?_
 with_reducible refine callP_eq (c1) ?_
 refine gO Tryz.func33 ?_;cases h1:(fewH h&&fewStepsB l)
 ·repeat' (first | with_reducible refine cY ?_ | with_reducible refine cN ?_ | with_reducible refine caseB_split (fun _=>?_) (fun _=>?_) | refine gA Tryz.func33 ?_ | refine gB ?_ | refine gC ?_ | with_reducible rfl)
  rfl
 have h2:=(Bool.and_eq_true _ _).mp h1;obtain ⟨hf,hk1,hk2,hhl⟩:=fewH_of hg h2.1;obtain ⟨ls,ll,lsh,lle⟩:=fewSteps_of hlg h2.2;refine caseB_true ?_;refine gO Tryz.func33 ?_
 with_reducible refine callP_eq (rvalidS_p h l hf (by omega) hk2 ls) ?_
 refine gO Tryz.func33 ?_;simp
structure Use35 (h:History) (l:List Step):Prop where
 valid:validS h l=true
 hist:histB h=true
 hf:h.Fits
 hk1:h.copies.length≤20
 hk2:h.hints.length≤1000000
 hl:h.Lens
 ls:Steps.Fits l
 ll:l.length≤20
 lsh:∀ s∈l,s.stage.puts.length≤1000000∧∀ x∈s.stage.puts,x.zone.Short
 lle:∀ s∈l,s.stage.puts.length≤1000000∧∀ x∈s.stage.puts,x.zone.Lens
 puts:∀ s∈l,s.stage.puts.length≤20
theorem use35_of {h:History} {l:List Step} (hg:h.Good) (hlg:∀ s∈l,s.Good) (hu:useB h l=true):Use35 h l:=by
 simp only [useB,Bool.and_eq_true] at hu;obtain ⟨⟨h1,h2⟩,h4⟩:=hu;obtain ⟨hf,hk1,hk2,hhl⟩:=fewH_of hg h1;obtain ⟨ls,ll,lsh,lle⟩:=fewSteps_of hlg h2;refine ⟨h4,(validS_iff.1 h4).1,hf,hk1,hk2,hhl,ls,ll,lsh,lle,fun s hs=>?_⟩;simp only [fewStepsB,Bool.and_eq_true,decide_eq_true_eq] at h2;have:=List.all_eq_true.1 h2.2 s hs;simp only [fewStageB,Bool.and_eq_true,decide_eq_true_eq] at this;exact this.1
theorem apply_lens2 {h:History} {l:List Step} (U:Use35 h l):(applyH h l).Lens:=by
 have hw4:=validS_iff.1 U.valid
 exact apply_lens U.hl U.hk1 (by have:=U.ll; omega) (fun s hs=>by
   have:=(hw4.2.2.1 s hs).2.2;simp only [stageB,Bool.and_eq_true,decide_eq_true_eq] at this
   exact this.1.1) (fun s hs=>(U.lle s hs).2)
theorem stay_zone {ended:List Spot} {at_:Int} {cs:List Copy} {x:Copy} (h:x∈stayL ended at_ cs):∃ c∈cs,x.zone=c.zone:=by
 obtain ⟨c,hc,e⟩:=List.mem_flatMap.1 h;exact ⟨c,hc,(stay_mem e).2.1⟩
theorem run_zone {fin:Int} {x:Copy}:∀ {l:List Step} {cs:List Copy},x∈runS fin cs l→(∃ c∈cs,x.zone=c.zone)∨∃ s∈l,∃ p∈s.stage.puts,x.zone=p.zone
 | [],_,h => .inl ⟨x,h,rfl⟩
 |s::l,cs,h=>by
  rcases run_zone (l:=l) (cs:=stepTo fin cs s) h with ⟨c,hc,e⟩ | ⟨s',hs,p,hp,e⟩
  ·rcases List.mem_append.1 hc with hc | hc
   ·obtain ⟨d,hd,e2⟩:=stay_zone hc;exact .inl ⟨d,hd,e.trans e2⟩
   ·obtain ⟨p,hp,e2⟩:=List.mem_map.1 hc;exact .inr ⟨s,List.mem_cons_self ..,p,(List.mem_filter.1 hp).1,by rw [e,← e2]⟩
  ·exact .inr ⟨s',List.mem_cons_of_mem _ hs,p,hp,e⟩
theorem apply_fits2 {h:History} {l:List Step} (U:Use35 h l):(applyH h l).Fits:=by
 by_cases h0:applyN h l=0
 ·rw [applyH_zero h0];refine ⟨U.hf.hosts,U.hf.anchor,U.hf.hints,fun c hc=>?_⟩;rcases run_zone hc with ⟨d,hd,e⟩ | ⟨s,hs,p,hp,e⟩
  ·rw [e]; exact U.hf.zones d hd
  ·rw [e]; exact (U.ls.each s hs).zones p hp
 ·rw [applyH,if_neg h0];exact ⟨fun x hx=>by simp [zeroH] at hx,⟨maxLen_big (by simp [zeroH]),by simp [zeroH],fun d hd=>by simp [zeroH] at hd⟩,maxLen_big (by simp [zeroH]),fun c hc=>by simp [zeroH] at hc⟩
theorem stepsValid_p (h:History) (l:List Step) (hg:h.Good) (hlg:∀ s∈l,s.Good):PCalls E 10 [h.enc,.sl (l.map Step.enc)] (· = .bool true):=by
 refine eP Tryz.func10 ?_
 with_reducible refine callP_eq (head35_p) ?_
 refine gO Tryz.func10 ?_
 with_reducible refine callP_eq (usable35_p h l hg hlg) ?_
 refine gO Tryz.func10 ?_;cases hu:useB h l
 ·repeat' (first | with_reducible refine cY ?_ | with_reducible refine cN ?_ | with_reducible refine caseB_split (fun _=>?_) (fun _=>?_) | refine gA Tryz.func10 ?_ | refine gB ?_ | refine gC ?_ | with_reducible rfl)
 have U:=use35_of hg hlg hu;have hk:=U.hk1;obtain ⟨a1,a2⟩:=apply_nil U.hist;have c1:=PCalls.nil2 (apply_p h [] U.hf (by omega) ⟨fun s hs=>by simp at hs,by simp⟩);rw [a1,a2] at c1;have s1:=rsame35_p h h U.hl;rw [decide_eq_true rfl] at s1;have c2:=apply_p h l U.hf (by omega) U.ls;refine caseB_false ?_;refine gO Tryz.func10 ?_;refine callP_eq (c1) ?_;refine gO Tryz.func10 ?_;refine caseB_false ?_;refine gO Tryz.func10 ?_;refine callP_eq (s1) ?_;refine gO Tryz.func10 ?_;refine caseB_false ?_;refine gO Tryz.func10 ?_;refine callP_eq (c2) ?_;refine gO Tryz.func10 ?_;by_cases h0:applyN h l=0
 case neg =>
  have h2:applyN h l=2:=(applyN_two U.valid).resolve_left h0;have h3:applyH h l=zeroH:=by rw [applyH,if_neg h0]
  rw [h2,h3];repeat' (first | with_reducible refine cY ?_ | with_reducible refine cN ?_ | with_reducible refine caseB_split (fun _=>?_) (fun _=>?_) | refine gA Tryz.func10 ?_ | refine gB ?_ | refine gC ?_ | with_reducible rfl)
  rfl
 have hv2:=apply_valid h0;have hx:=applyH_zero h0;have hl2:=apply_lens2 U;have hf2:(applyH h l).Fits:=apply_fits2 U;have c3:=hvalid_p (applyH h l) hf2 hl2.copies;rw [hv2] at c3;have c4:=rsame35_p { applyH h l with copies:=h.copies } h ⟨by rw [hx]; exact U.hl.hosts,U.hl.copies,by rw [hx]; exact U.hl.hints,by rw [hx]; exact U.hl.anchor,U.hl.zones⟩;rw [decide_eq_true (by rw [hx])] at c4;rw [h0];refine caseB_no (by decide) ?_;refine gO Tryz.func10 ?_;refine caseB_true ?_;refine gO Tryz.func10 ?_;refine callP_eq (c3) ?_;refine gO Tryz.func10 ?_;refine caseB_true ?_;refine gO Tryz.func10 ?_;refine callP_eq (c4) ?_;refine gO Tryz.func10 ?_
 with_reducible rfl
theorem stepsValid_g (h:History) (l:List Step) (g0:h.Good) (g1:l.length≤maxLen∧∀ a∈l,Step.Good a):PCalls E 10 [h.enc,.sl (l.map Step.enc)] (· = .bool true):=stepsValid_p h l g0 g1.2
end Go.Proofs.YtajnanldmhpeaaaGreatDoor.P
