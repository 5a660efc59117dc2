/- The law StepsOwners: the walk. Conditions: what Go allows of the arguments. -/
import Derived.Test.YtajnanldmhpeaaaGreatDoorZP85
set_option linter.unusedVariables false
set_option linter.unusedSimpArgs false
namespace Go.Proofs.YtajnanldmhpeaaaGreatDoor.P
open Go Go.Eng
set_option maxRecDepth 100000
set_option maxHeartbeats 4000000
theorem owners_mem {h:History} {s:Stage} {n:Int}:n∈ownersL h s↔n∈s.puts.map fun p=>ownerOf h p.host:=by
 rw [ownersL,compact_mem,(sortI_perm _).mem_iff]
theorem owners_lt {h:History} {s:Stage}:(ownersL h s).Pairwise (· < ·):=compact_lt (sortI_sorted _)
theorem owners_len {h:History} {s:Stage}:(setM (DV.int .i64) (s.puts.map fun p=>ownerOf h p.host)).length=(ownersL h s).length:=by
 have h1:=setM_len keyEq_num (s.puts.map fun p=>ownerOf h p.host) _ (Nat.le_refl _);rw [List.take_length] at h1;rw [h1];have hn:(ownersL h s).Nodup:=List.nodup_iff_pairwise_ne.2 (owners_lt.imp fun {a b} hab=>by omega);apply Nat.le_antisymm
 ·exact nodup_le (nub_nodup List.nodup_nil) fun x hx=>by
   rw [nub_mem] at hx;rw [owners_mem]
   simpa using hx
 ·exact nodup_le hn fun x hx=>by
   rw [nub_mem];rw [owners_mem] at hx;exact .inr hx
theorem stepsOwners_p (h:History) (s:Step) (hg:h.Good) (hsg:s.Good):PCalls E 12 [h.enc,s.enc] (· = .bool true):=by
 have c1:=rfew21_p h;have c2:=rfewStage_p s.stage;refine eP Tryz.func12 ?_
 with_reducible refine callP_eq (head35_p) ?_
 refine gO Tryz.func12 ?_
 with_reducible refine callP_eq (c1) ?_
 refine gO Tryz.func12 ?_;cases h1:fewH h
 ·repeat' (first | with_reducible refine cY ?_ | with_reducible refine cN ?_ | with_reducible refine caseB_split (fun _=>?_) (fun _=>?_) | refine gA Tryz.func12 ?_ | refine gB ?_ | refine gC ?_ | with_reducible rfl)
 refine caseB_false ?_;refine gO Tryz.func12 ?_
 with_reducible refine callP_eq (c2) ?_
 refine gO Tryz.func12 ?_;cases h2:fewStageB s.stage
 ·repeat' (first | with_reducible refine cY ?_ | with_reducible refine cN ?_ | with_reducible refine caseB_split (fun _=>?_) (fun _=>?_) | refine gA Tryz.func12 ?_ | refine gB ?_ | refine gC ?_ | with_reducible rfl)
 refine caseB_false ?_;refine gO Tryz.func12 ?_;obtain ⟨hf,hk1,hk2,hhl⟩:=fewH_of hg h1;obtain ⟨ls,ll,lsh,lle⟩:=fewSteps_of (l:=[s]) (fun x hx=>by simp at hx; subst hx; exact hsg) (by simp [fewStepsB,h2]);have c3:=owners_p h s hf (by omega) ls;have c4:=rvalidS_p h [s] hf (by omega) hk2 ls;refine callP_eq (c3) ?_;refine gO Tryz.func12 ?_;refine callP_eq (c4) ?_;refine gO Tryz.func12 ?_;cases hv:validS h [s]
 ·have e1:ownersR h s=[]:=by simp [ownersR,hv]
  have e2:ownersN h s=1:=by simp [ownersN,hv]
  rw [e1,e2];refine caseB_true ?_;repeat' (first | with_reducible refine cY ?_ | with_reducible refine cN ?_ | with_reducible refine caseB_split (fun _=>?_) (fun _=>?_) | refine gA Tryz.func12 ?_ | refine gB ?_ | refine gC ?_ | with_reducible rfl)
  all_goals rfl
 have e1:ownersR h s=ownersL h s.stage:=by simp [ownersR,hv]
 have e2:ownersN h s=0:=by simp [ownersN,hv]
 rw [e1,e2];refine caseB_false ?_;obtain ⟨v1,v2,v3,v4⟩:=validS_one hv;obtain ⟨s1,s2,s3⟩:=stageB_iff.1 v4;have own:=fun p (hp:p∈s.stage.puts)=>by
  have:=s2 p hp;simp only [putOK,Bool.and_eq_true,decide_eq_true_eq] at this;exact owner_at (h:=h) this.1.1 this.1.2
 have hpos:∀ p∈s.stage.puts,0≤p.host:=fun p hp=>by
  have:=s2 p hp;simp only [putOK,Bool.and_eq_true,decide_eq_true_eq] at this;exact this.1.1
 have hmem:=fun n=>owners_mem (h:=h) (s:=s.stage) (n:=n);have hlt:=owners_lt (h:=h) (s:=s.stage);have hlen:=owners_len (h:=h) (s:=s.stage);have hll:(ownersL h s.stage).length≤1000000:=by
  unfold ownersL;have:=compact_len (sortI (s.stage.puts.map fun p=>ownerOf h p.host));rw [(sortI_perm _).length_eq,List.length_map] at this;omega
 generalize ownersL h s.stage=L at *;generalize hO:ownerOf h=O at *;clear c1 c2 c3 c4;refine gO Tryz.func12 ?_;refine gO Tryz.func12 ?_;refine AWL.loop (κ:=Nat) ([10]++rg 50 13) (fun k=>[(50,.d (.int .i64 k)),(8,.map 2)]) (fun k=>[(2,.map (setM (DV.int .i64) ((s.stage.puts.map fun p=>O p.host).take k)))]) (fun k=>k≤s.stage.puts.length) (fun k=>s.stage.puts.length - k) 0 (Nat.zero_le _) ?_ ?_
 ·(conv=>whnf);repeat (first | exact trivial | (refine sI ?_; conv=>whnf))
  refine And.intro rfl ?_;(conv=>whnf);repeat (first | exact trivial | (refine sI ?_; conv=>whnf))
 intro k hk IH;refine AWL.head E_ok Tryz.func12 2000 ?_;(conv=>whnf);refine caseB_split (fun h5=>?_) (fun h5=>?_)
 ·have hlt:k<s.stage.puts.length:=by simpa using h5
  obtain ⟨p,hp⟩:=some_of_lt hlt;have hp2:(s.stage.puts.map fun p=>O p.host)[k]? = some (O p.host):=by rw [List.getElem?_map,hp]; rfl
  obtain ⟨x,hx,hox⟩:=own p (List.mem_of_getElem? hp);have hpp:=hpos p (List.mem_of_getElem? hp);have A1:At1 (h.hosts.map Host.enc) p.host x.enc:=by
   have:=at_map (f:=Host.enc) hx
   rwa [Int.toNat_of_nonneg hpp] at this
  have hkeys:=(setM_ok keyEq_num ((s.stage.puts.map fun p=>O p.host).take k)).1;refine gO Tryz.func12 ?_;refine elemP_at (e:=p.enc) (at_map hp) rfl ?_;refine gO Tryz.func12 ?_;refine elemP_at A1 rfl ?_;refine gO Tryz.func12 ?_;refine need_intro ⟨⟨_,rfl⟩,hkeys⟩ ?_;refine gO Tryz.func12 ?_;refine AWL.back (IH (k+1) (by omega) (by omega)) ?_;rw [setM_next hp2,hox];(conv=>whnf);repeat (first | exact trivial | (refine sI ?_; conv=>whnf))
 ·have hge:s.stage.puts.length≤k:=by simpa using h5
  rw [List.take_of_length_le (by simpa using hge)];clear IH;have hkeys:=(setM_ok keyEq_num (s.stage.puts.map fun p=>O p.host)).1;have hhas:=setM_has keyEq_num (s.stage.puts.map fun p=>O p.host);generalize setM (DV.int .i64) (s.stage.puts.map fun p=>O p.host)=M at *;refine gO Tryz.func12 ?_;refine AWL.loop (κ:=Nat) ([4,11,12]++rg 65 23) (fun k=>[(65,.d (.int .i64 k))]) (fun _=>[]) (fun k=>k≤L.length) (fun k=>L.length - k) 0 (Nat.zero_le _) ?_ ?_
  ·(conv=>whnf);repeat (first | exact trivial | (refine sI ?_; conv=>whnf))
  intro k hk IH;refine AWL.head E_ok Tryz.func12 2000 ?_;(conv=>whnf);refine caseB_split (fun h6=>?_) (fun h6=>?_)
  ·have hklt:k<L.length:=by simpa using h6
   obtain ⟨x,hx⟩:=some_of_lt hklt;obtain ⟨hf1,hf2⟩:=hhas x;have hin:x∈s.stage.puts.map fun p=>O p.host:=(hmem x).1 (List.mem_of_getElem? hx);rw [decide_eq_true hin] at hf1 hf2;refine gO Tryz.func12 ?_;refine elemP_at (e := .int .i64 x) (at_map hx) rfl ?_;refine gO Tryz.func12 ?_;refine lookP_intro (.bool false) (.bool false) ⟨_,rfl⟩ hkeys (fun w=>by kernel_rfl) (fun _ _ => .bool _) hf1 hf2 ?_;refine gO Tryz.func12 ?_;refine caseB_false ?_;refine gO Tryz.func12 ?_;refine caseB_split (fun h7=>?_) (fun h7=>?_)
   ·have hk0:0<k:=by simpa using h7
    obtain ⟨y,hy⟩:=some_of_lt (l:=L) (k:=k - 1) (by omega);have hyx:y<x:=by
     have:=List.pairwise_iff_getElem.1 hlt (k - 1) k (by omega) hklt (by omega);have e1:=(List.getElem?_eq_some_iff.1 hx).2;have e2:=(List.getElem?_eq_some_iff.1 hy).2;omega
    refine gO Tryz.func12 ?_;refine elemP_at (e := .int .i64 y) (at_prev hy hk0 (by omega)) rfl ?_;refine gO Tryz.func12 ?_;refine caseB_no (by simp; omega) ?_;refine gO Tryz.func12 ?_;refine AWL.back (IH (k+1) (by omega) (by omega)) ?_;(conv=>whnf);repeat (first | exact trivial | (refine sI ?_; conv=>whnf))
   ·refine gO Tryz.func12 ?_;refine caseB_false ?_;refine gO Tryz.func12 ?_;refine AWL.back (IH (k+1) (by omega) (by omega)) ?_;(conv=>whnf);repeat (first | exact trivial | (refine sI ?_; conv=>whnf))
  ·clear IH;refine gO Tryz.func12 ?_;refine caseB_true ?_;refine gO Tryz.func12 ?_;refine caseB_yes (by decide) ?_;refine gO Tryz.func12 ?_;refine gO Tryz.func12 ?_;rw [hlen];simp
theorem stepsOwners_g (h:History) (s:Step) (g0:h.Good) (g1:s.Good):PCalls E 12 [h.enc,s.enc] (· = .bool true):=stepsOwners_p h s g0 g1
end Go.Proofs.YtajnanldmhpeaaaGreatDoor.P
