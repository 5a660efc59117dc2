/- The laws of package steps: small functions, and the examples. Conditions: lengths that Go allows. -/
import Derived.Test.YtajnanldmhpeaaaGreatDoorZP83
import Derived.Test.YtajnanldmhpeaaaGreatDoorZP70
set_option linter.unusedVariables false
set_option linter.unusedSimpArgs false
namespace Go.Proofs.YtajnanldmhpeaaaGreatDoor.P
open Go Go.Eng
set_option maxRecDepth 100000
set_option maxHeartbeats 4000000
theorem rnumbers_p (a b:List Int) (hl:a.length≤1000000):PCalls E 78 [.sl (a.map (.int .i64)),.sl (b.map (.int .i64))] (· = .bool (decide (a=b))):=by
 refine eP Tryz.func78 ?_;refine caseB_split (fun h3=>?_) (fun h3=>?_)
 ·have e:decide (a=b)=false:=by
   rw [decide_eq_false];rintro rfl;simp at h3
  rw [e];refine gO Tryz.func78 ?_
  with_reducible rfl
 ·have hl2:a.length=b.length:=by simp at h3; omega
  refine gO Tryz.func78 ?_;refine AWL.loop (κ:=Nat) ([4,5]++rg 11 15) (fun k=>[(5,.d (.int .i64 k))]) (fun _=>[]) (fun k=>k≤a.length∧a.take k=b.take k) (fun k=>a.length - k) 0 ⟨Nat.zero_le _,rfl⟩ ?_ ?_
  ·(conv=>whnf);repeat (first | exact trivial | (refine sI ?_; conv=>whnf))
  intro k hk IH;refine AWL.head E_ok Tryz.func78 2000 ?_;(conv=>whnf);refine caseB_split (fun h7=>?_) (fun h7=>?_)
  ·have hlt:k<a.length:=by simpa using h7
   obtain ⟨u,hu⟩:=some_of_lt hlt;obtain ⟨w,hw⟩:=some_of_lt (l:=b) (k:=k) (by omega);refine gO Tryz.func78 ?_;refine AWL.draw E_ok E_mixed 9 2000 (by kernel_rfl) ?_;(conv=>whnf);refine elemP_at (e := .int .i64 u) (at_map hu) rfl ?_;refine gD ?_;refine elemP_at (e := .int .i64 w) (at_map hw) rfl ?_;refine gD ?_;refine gS ?_;refine gO Tryz.func78 ?_;refine caseB_split (fun h8=>?_) (fun h8=>?_)
   ·have hne:u≠w:=by rintro rfl; simp at h8
    refine gO Tryz.func78 ?_;rw [decide_eq_false (ne_of_at hu hw hne)]
   ·have e1:u=w:=by simpa using h8
    refine gO Tryz.func78 ?_;refine AWL.back (IH (k+1) ⟨by omega,takeEq_next hk.2 hu hw e1⟩ (by omega)) ?_;(conv=>whnf);repeat (first | exact trivial | (refine sI ?_; conv=>whnf))
  ·have hge:k=a.length:=by simp at h7; omega
   have heb:a=b:=takeEq_all hk.2 (by omega) (by omega);refine gO Tryz.func78 ?_;simp [heb]
theorem upTo_p (l:List Step) (t:Int) (hl:l.length≤1000000):PCalls E 35 [.sl (l.map Step.enc),.int .i64 t] (· = .sl ((l.filter (fun s=>decide (s.time≤t))).map Step.enc)):=by
 refine eP Tryz.func35 ?_;refine AWL.adopt 5 (45,2) (by decide) rfl ?_;(conv=>whnf);refine AWL.loop (κ:=Nat) ([5,7]++rg 10 13) (fun k=>[(10,.d (.int .i64 k)),(5,.own 0 1)]) (fun k=>[(0,.arr 1 (45,2) (((l.take k).filter (fun s=>decide (s.time≤t))).map Step.enc))]) (fun k=>k≤l.length) (fun k=>l.length - k) 0 (Nat.zero_le _) ?_ ?_
 ·(conv=>whnf);repeat (first | exact trivial | (refine sI ?_; conv=>whnf))
  refine And.intro rfl ?_;(conv=>whnf);repeat (first | exact trivial | (refine sI ?_; conv=>whnf))
 intro k hk IH;refine AWL.head E_ok Tryz.func35 2000 ?_;(conv=>whnf);refine caseB_split (fun h5=>?_) (fun h5=>?_)
 ·have hlt:k<l.length:=by simpa using h5
  obtain ⟨x,hx⟩:=some_of_lt hlt;have hnx:=filt_next (P:=fun s:Step=>decide (s.time≤t)) hx;have hln:=filt_len (P:=fun s:Step=>decide (s.time≤t)) (l:=l) (k:=k);refine gO Tryz.func35 ?_;refine elemP_at (e:=x.enc) (at_map hx) rfl ?_;refine gO Tryz.func35 ?_;refine caseB_split (fun h6=>?_) (fun h6=>?_)
  ·refine gO Tryz.func35 ?_;refine need_intro ⟨by simp only [List.length_map,List.length_append,List.length_cons,List.length_nil]; omega,by simp [DV.cells]⟩ ?_;refine gO Tryz.func35 ?_;refine AWL.back (IH (k+1) (by omega) (by omega)) ?_;rw [hnx,if_pos h6];(conv=>whnf);repeat (first | exact trivial | (refine sI ?_; conv=>whnf))
   refine And.intro (by simp) ?_;(conv=>whnf);repeat (first | exact trivial | (refine sI ?_; conv=>whnf))
  ·refine gO Tryz.func35 ?_;refine AWL.back (IH (k+1) (by omega) (by omega)) ?_;rw [hnx,if_neg (by simpa using h6),List.append_nil];(conv=>whnf);repeat (first | exact trivial | (refine sI ?_; conv=>whnf))
 ·have hge:l.length≤k:=by simpa using h5
  rw [List.take_of_length_le hge];refine gO Tryz.func35 ?_
  with_reducible rfl
def verZ (n:Int):Zone:=⟨[120],[⟨⟨[120],2,0,[⟨[97],0,0⟩]⟩,[]⟩,⟨⟨[120],4,0,[⟨[],n,0⟩]⟩,[]⟩]⟩
def putT (at_ n:Int):Step:=⟨at_,⟨[⟨0,if 0<n then verZ n else ⟨[120],[]⟩⟩]⟩⟩
def exS:History:=⟨[⟨[97],1,3⟩],[⟨0,0,100,verZ 1⟩],⟨[46],6,0,[⟨[],1,1⟩]⟩,[1],0,100⟩
theorem version_p (n:Int):PCalls E 77 [.int .i64 n] (· = (verZ n).enc):=by
 refine PCalls.nrm ?_;refine eP Tryz.func77 ?_;rfl
theorem example35_p:PCalls E 75 [] (· = exS.enc):=by
 refine PCalls.nrm ?_;refine eP Tryz.func75 ?_;refine AWL.draw E_ok E_mixed 8 2000 (by kernel_rfl) ?_;(conv=>whnf);refine callP1_eq (version_p 1) ?_;refine gD ?_;refine gS ?_;refine gO Tryz.func75 ?_;rfl
theorem put_p (at_ n:Int):PCalls E 76 [.int .i64 at_,.int .i64 n] (· = (putT at_ n).enc):=by
 refine PCalls.nrm ?_;refine eP Tryz.func76 ?_;refine caseB_split (fun h=>?_) (fun h=>?_)
 ·have e:putT at_ n=⟨at_,⟨[⟨0,verZ n⟩]⟩⟩:=by rw [putT,if_pos (by simpa using h)]
  rw [e];refine gO Tryz.func76 ?_
  with_reducible refine callP_eq (version_p n) ?_
  refine gO Tryz.func76 ?_;rfl
 ·have e:putT at_ n=⟨at_,⟨[⟨0,⟨[120],[]⟩⟩]⟩⟩:=by rw [putT,if_neg (by simpa using h)]
  rw [e];refine gO Tryz.func76 ?_;rfl
theorem few35_p (h:History) (l:List Step):PCalls E 79 [h.enc,.sl (l.map Step.enc)] (· = .bool (fewH h&&fewStepsB l)):=by
 have c1:=rfew21_p h;have c2:=rfewSteps_p l;refine eP Tryz.func79 ?_
 with_reducible refine callP_eq (c1) ?_
 refine gO Tryz.func79 ?_;cases h1:fewH h
 ·repeat' (first | with_reducible refine cY ?_ | with_reducible refine cN ?_ | with_reducible refine caseB_split (fun _=>?_) (fun _=>?_) | refine gA Tryz.func79 ?_ | refine gB ?_ | refine gC ?_ | with_reducible rfl)
  rfl
 refine caseB_true ?_;refine gO Tryz.func79 ?_
 with_reducible refine callP_eq (c2) ?_
 refine gO Tryz.func79 ?_;simp
theorem exA1:applyN exS [putT 40 2,putT 60 0]=0:=by decide +kernel
theorem exA2:applyH exS [putT 40 2,putT 60 0]={ exS with copies:=[⟨0,0,40,verZ 1⟩,⟨0,40,60,verZ 2⟩] }:=by decide +kernel
theorem exA3:ownersN exS (putT 40 2)=0:=by decide +kernel
theorem exA4:ownersR exS (putT 40 2)=[3]:=by decide +kernel
theorem exA5:applyN exS [putT 40 2,putT 40 0]=1:=by decide +kernel
theorem exA6:atN exS 0=0:=by decide +kernel
theorem exA7:worldN (atW exS 0) (putT 0 2).stage=0:=by decide +kernel
theorem exA8:worldS (atW exS 0) (putT 0 2).stage=⟨exS.hosts,[⟨0,verZ 2⟩],exS.anchor,exS.hints⟩:=by decide +kernel
theorem exA9:validS exS [putT 99 0]=true:=by decide +kernel
theorem exA10:validS exS [putT 100 0]=false:=by decide +kernel
theorem verZ_fits (n:Int):(verZ n).Fits:=by
 refine ⟨maxLen_big (by simp [verZ]),fun s hs=>?_⟩;simp only [verZ,List.mem_cons,List.not_mem_nil,or_false] at hs;rcases hs with rfl | rfl
 ·refine ⟨maxLen_big (by simp),by simp,fun d hd=>?_⟩;simp at hd; subst hd; exact maxLen_big (by simp)
 ·refine ⟨maxLen_big (by simp),by simp,fun d hd=>?_⟩;simp at hd; subst hd; exact maxLen_big (by simp)
theorem verZ_lens (n:Int):(verZ n).Lens:=by
 refine ⟨by simp [verZ],fun s hs=>?_⟩;simp only [verZ,List.mem_cons,List.not_mem_nil,or_false] at hs;rcases hs with rfl | rfl <;> exact ⟨by simp,by simp⟩
theorem putT_fits (at_ n:Int):(putT at_ n).stage.Fits:=by
 refine ⟨fun p hp=>?_,by simp [putT]⟩;simp only [putT,List.mem_cons,List.not_mem_nil,or_false] at hp;subst hp;simp only;split
 ·exact verZ_fits n
 ·exact ⟨maxLen_big (by simp),fun s hs=>by simp at hs⟩
theorem exS_fits:exS.Fits:=by
 refine ⟨fun x hx=>?_,⟨maxLen_big (by decide),by decide,fun d hd=>?_⟩,maxLen_big (by decide),fun c hc=>?_⟩
 ·simp [exS] at hx; subst hx; exact maxLen_big (by decide)
 ·simp [exS] at hd; subst hd; exact maxLen_big (by decide)
 ·simp only [exS,List.mem_cons,List.not_mem_nil,or_false] at hc;subst hc;exact verZ_fits 1
theorem puts_fits {l:List Step} (hl:l.length≤1000000) (h:∀ s∈l,∃ a n,s=putT a n):Steps.Fits l :=
 ⟨fun s hs=>by obtain ⟨a,n,rfl⟩:=h s hs; exact putT_fits a n,hl⟩
theorem exW_fits:(atW exS 0).Fits:=by
 have e:atW exS 0=⟨exS.hosts,[⟨0,verZ 1⟩],exS.anchor,exS.hints⟩:=by decide +kernel
 rw [e];refine ⟨exS_fits.hosts,exS_fits.anchor,exS_fits.hints,fun p hp=>?_⟩;simp only [List.mem_cons,List.not_mem_nil,or_false] at hp;subst hp;exact verZ_fits 1
theorem exA_lens:(applyH exS [putT 40 2,putT 60 0]).Lens:=by
 rw [exA2];refine ⟨by simp [exS],by simp,by simp [exS],by simp [exS],fun c hc=>?_⟩;simp only [List.mem_cons,List.not_mem_nil,or_false] at hc;rcases hc with rfl | rfl
 ·exact verZ_lens 1
 ·exact verZ_lens 2
theorem head35_p:PCalls E 32 [] (· = .bool true):=by
 have one:∀ a n,Steps.Fits [putT a n]:=fun a n=>puts_fits (by simp) (fun s hs=>by simp at hs; exact ⟨a,n,hs⟩);have two:∀ a n b m,Steps.Fits [putT a n,putT b m]:=fun a n b m=>puts_fits (by simp) (fun s hs=>by simp at hs; rcases hs with rfl | rfl <;> exact ⟨_,_,rfl⟩);have c1:=apply_p exS [putT 40 2,putT 60 0] exS_fits (by decide) (two _ _ _ _);have c2:=owners_p exS (putT 40 2) exS_fits (by decide) (one _ _);have c3:=apply_p exS [putT 40 2,putT 40 0] exS_fits (by decide) (two _ _ _ _);have c4:=at_p exS 0 exS_fits (by decide);have c5:=world_p (atW exS 0) (putT 0 2).stage exW_fits (putT_fits 0 2);have c6:=rsame35_p (applyH exS [putT 40 2,putT 60 0]) { exS with copies:=[⟨0,0,40,verZ 1⟩,⟨0,40,60,verZ 2⟩] } exA_lens;rw [decide_eq_true exA2] at c6;have c7:=rnumbers_p [3] [3] (by simp);rw [exA1] at c1;rw [exA3,exA4] at c2;rw [exA5] at c3;rw [exA6] at c4;rw [exA7,exA8] at c5;have c8:=rsameZone_p (verZ 2) (verZ 2) (verZ_lens 2);rw [decide_eq_true rfl] at c8;have c9:=svalid_p exS [putT 99 0] exS_fits (by decide) (one _ _);have c10:=svalid_p exS [putT 100 0] exS_fits (by decide) (one _ _);rw [exA9] at c9;rw [exA10] at c10;refine eP Tryz.func32 ?_;refine callP_eq (example35_p) ?_;refine gO Tryz.func32 ?_;refine callP_eq (put_p 40 2) ?_;refine gO Tryz.func32 ?_;refine callP_eq (put_p 60 0) ?_;refine gO Tryz.func32 ?_;refine callP_eq (c1) ?_;refine gO Tryz.func32 ?_;refine callP_eq (example35_p) ?_;refine gO Tryz.func32 ?_;refine callP_eq (put_p 40 2) ?_;refine gO Tryz.func32 ?_;refine callP_eq (c2) ?_;refine gO Tryz.func32 ?_;refine callP_eq (example35_p) ?_;refine gO Tryz.func32 ?_;refine callP_eq (put_p 40 2) ?_;refine gO Tryz.func32 ?_;refine callP_eq (put_p 40 0) ?_;refine gO Tryz.func32 ?_;refine callP_eq (c3) ?_;refine gO Tryz.func32 ?_;refine callP_eq (example35_p) ?_;refine gO Tryz.func32 ?_;refine callP_eq (c4) ?_;refine gO Tryz.func32 ?_;refine AWL.drawA E_ok E_mixed 7 2000 (by kernel_rfl) ?_;(conv=>whnf);refine callP1_eq (put_p 0 2) ?_;refine gD ?_;refine callP1_eq (c5) ?_;refine gD ?_;refine gS ?_;refine gO Tryz.func32 ?_;refine callP_eq (example35_p) ?_;refine gO Tryz.func32 ?_;refine callP_eq (version_p 1) ?_;refine gO Tryz.func32 ?_;refine callP_eq (version_p 2) ?_;refine gO Tryz.func32 ?_;refine caseB_yes (by decide) ?_;refine gO Tryz.func32 ?_;refine caseB_yes (by decide) ?_;refine gO Tryz.func32 ?_;refine caseB_yes (by decide) ?_;refine gO Tryz.func32 ?_;refine caseB_yes (by decide) ?_;refine gO Tryz.func32 ?_;refine caseB_yes (by decide) ?_;refine gO Tryz.func32 ?_;refine callP_eq (c6) ?_;refine gO Tryz.func32 ?_;refine caseB_true ?_;refine gO Tryz.func32 ?_;refine callP_eq (c7) ?_;refine gO Tryz.func32 ?_;refine AWL.draw E_ok E_mixed 30 2000 (by kernel_rfl) ?_;(conv=>whnf);refine caseB_yes (by decide) ?_;refine gD ?_;refine caseB_yes (by decide) ?_;refine gD ?_;refine elemP_at (at_zero (f:=Placed.enc) (l:=[⟨0,verZ 2⟩]) rfl) rfl ?_;refine gD ?_;refine callP1_eq (version_p 2) ?_
 refine gD ?_;refine callP1_eq (c8) ?_;refine gD ?_;refine caseB_true ?_;refine gD ?_;refine callP1_eq (example35_p) ?_;refine gD ?_;refine callP1_eq (put_p 99 0) ?_;refine gD ?_;refine callP1_eq (c9) ?_;refine gD ?_;refine caseB_true ?_;refine gD ?_;refine callP1_eq (example35_p) ?_;refine gD ?_;refine callP1_eq (put_p 100 0) ?_;refine gD ?_;refine callP1_eq (c10) ?_;refine gD ?_;refine gS ?_;refine gO Tryz.func32 ?_;rfl
end Go.Proofs.YtajnanldmhpeaaaGreatDoor.P
