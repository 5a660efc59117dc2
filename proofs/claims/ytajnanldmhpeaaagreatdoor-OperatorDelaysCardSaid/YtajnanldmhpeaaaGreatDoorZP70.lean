/- The law OperatorMatchesReference: the walk. Conditions: what Go allows of the arguments. -/
import Derived.Test.YtajnanldmhpeaaaGreatDoorZP69
set_option linter.unusedVariables false
set_option linter.unusedSimpArgs false
namespace Go.Proofs.YtajnanldmhpeaaaGreatDoor.P
open Go Go.Eng
set_option maxRecDepth 100000
set_option maxHeartbeats 4000000
theorem zeroP_lens:zeroP.Lens:=⟨by simp [zeroP],by simp [zeroP],fun s hs=>by simp [zeroP] at hs⟩
theorem off_lens {n:Nat} {by_:Int} {l:List Step} (he:∀ s∈l,s.stage.puts.length≤1000000∧∀ x∈s.stage.puts,x.zone.Lens):∀ s∈offL n by_ l,s.stage.puts.length≤1000000∧∀ x∈s.stage.puts,x.zone.Lens :=
 each_map (P:=fun g=>g.puts.length≤1000000∧∀ x∈g.puts,x.zone.Lens) off_stage he
theorem take_lens {h:History} {p:Progress} {r:Report} (hp:p.Lens) (hd:p.done.length≤20):(takeR h p r).1.Lens:=by
 unfold takeR;repeat' split
 all_goals first
  |exact zeroP_lens
  |skip
 refine ⟨?_,?_,?_⟩
 ·simp only [takeQ,off_len]; exact hp.steps
 ·simp only [takeQ]; rw [done_len2]; split <;> omega
 ·simp only [takeQ]; exact off_lens hp.each
theorem zeroH_lens:zeroH.Lens:=⟨by simp [zeroH],by simp [zeroH],by simp [zeroH],by simp [zeroH],fun c hc=>by simp [zeroH] at hc⟩
theorem apply_lens {h:History} {l:List Step} (hh:h.Lens) (hc:h.copies.length≤20) (hl:l.length≤400) (hp:∀ s∈l,s.stage.puts.length≤500) (he:∀ s∈l,∀ x∈s.stage.puts,x.zone.Lens):(applyH h l).Lens:=by
 unfold applyH;split
 ·have:=runS_len (fin:=h.fin) (cs:=h.copies) hp l.length (Nat.le_refl _);rw [List.take_length] at this;exact ⟨hh.hosts,by simp only; omega,hh.hints,hh.anchor,runS_zones hh.zones (fun s hs x hx _=>he s hs x hx)⟩
 ·exact zeroH_lens
theorem doneL_mem {dn:List Int} {l:List Step} {P:Stage→Prop} (he:∀ s∈l,P s.stage):∀ s∈doneL dn l,P s.stage:=fun s h=>by
 obtain ⟨i,hi⟩:=List.getElem?_of_mem h;rw [doneL,List.getElem?_zipWith] at hi;cases h1:dn[i]? with
 |none=>rw [h1] at hi; simp at hi
 |some t =>
  cases h2:l[i]? with
  |none=>rw [h1,h2] at hi; simp at hi
  |some x =>
   rw [h1,h2] at hi;obtain rfl:=Option.some.inj hi;exact he x (List.mem_of_getElem? h2)
theorem real_lens {h:History} {p:Progress} (hh:h.Lens) (hc:h.copies.length≤20) (hp:p.Lens):(realH h p).Lens:=by
 unfold realH;split
 ·rename_i hv;obtain ⟨v1,v2,_⟩:=validP_iff.1 hv;obtain ⟨w1,w2,w3,_⟩:=validS_iff.1 v1;refine apply_lens hh hc (by rw [done_len v2]; omega) (doneL_mem (P:=fun g=>g.puts.length≤500) fun s hs=>?_) (doneL_mem (P:=fun g=>∀ x∈g.puts,x.zone.Lens) fun s hs=>(hp.each s hs).2);have:=(w3 s hs).2.2;simp only [stageB,Bool.and_eq_true,decide_eq_true_eq] at this;exact this.1.1
 ·exact zeroH_lens
end Go.Proofs.YtajnanldmhpeaaaGreatDoor.P
