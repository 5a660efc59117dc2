/- Contracts by the engine: package copies: cloneZone. Conditions: lengths that Go allows. -/
import Derived.Test.YthikfaephakahaaGreatDoorZN8
import Derived.Test.YthikfaephakahaaGreatDoorZEngHH
set_option linter.unusedVariables false
set_option linter.unusedSimpArgs false
namespace Go.Proofs.YthikfaephakahaaGreatDoor.P
open Go Go.Eng
set_option maxRecDepth 100000
set_option maxHeartbeats 4000000
theorem cloneZone_p (z:Zone) (hf:z.Short):PCalls E 54 [z.enc] (· = z.enc):=by
 obtain ⟨apex,l⟩:=z;obtain ⟨hl,he⟩:=hf;simp only at hl he;have hcl:∀ e∈l.map Signed.enc,e.cells.length=5:=fun e h=>by
  obtain ⟨x,_,rfl⟩:=List.mem_map.1 h;rfl
 show PCalls E _ [DV.agg [.str apex,.sl (l.map Signed.enc)]] _;by_cases h:l=[]
 ·subst h;show PCalls E _ [DV.agg [.str apex,.sl []]] _;refine eP Tryz.func54 ?_;refine AWL.drawA E_ok E_mixed 6 2000 (by kernel_rfl) ?_;(conv=>whnf);refine callP1_eq (cloneSigned_p [] (by simp) (by simp)) ?_;refine gD ?_;refine gS ?_;refine gO Tryz.func54 ?_;refine AWL.unroll ?_;refine AWL.run E_ok Tryz.func54 2000 ?_;(conv=>whnf);refine caseB_no (by simp) ?_;refine gO Tryz.func54 ?_;rfl
 ·refine eP Tryz.func54 ?_;refine AWL.drawGA E_ok E_mixed [0,1,2,3] 6 2000 (by kernel_rfl) ?_;(conv=>whnf);refine GWL.run E_ok 2000 rfl rfl ?_;(conv=>whnf);refine callP2_own (cloneSigned_a (l.map Signed.enc) (by simpa using h) (by simpa using hl) hcl) rfl ?_;(conv=>whnf);refine And.intro rfl ?_;(conv=>whnf);refine GWL.run E_ok 2000 rfl rfl ?_;(conv=>whnf);refine And.intro rfl ?_;(conv=>whnf);refine GWL.run E_ok 2000 rfl rfl ?_;(conv=>whnf);refine And.intro rfl ?_;(conv=>whnf);refine GWL.run E_ok 2000 rfl rfl ?_;(conv=>whnf);refine And.intro rfl ?_;(conv=>whnf);refine GWL.run E_ok 2000 rfl rfl ?_;(conv=>whnf);refine gO Tryz.func54 ?_;refine AWL.loop (κ:=Nat) ([4,5]++rg 15 24) (fun k=>[(15,.d (.int .i64 k)),(13,.own 2 1)]) (fun k=>[(2,.arr 1 (81,5) (l.map Signed.enc))]) (fun k=>k≤l.length) (fun k=>l.length - k) 0 (Nat.zero_le _) ?_ ?_
  ·(conv=>whnf);repeat (first | exact trivial | (refine sI ?_; conv=>whnf))
  intro k hk IH;refine AWL.head E_ok Tryz.func54 2000 ?_;(conv=>whnf);refine caseB_split (fun h5=>?_) (fun h5=>?_)
  ·have hlt:k<l.length:=by simpa using h5
   obtain ⟨x,hx⟩:=some_of_lt hlt;obtain ⟨q1,q2⟩:=he x (List.mem_of_getElem? hx);have hset1:(l.map Signed.enc).set (k:Int).toNat (DV.agg [.str x.set.name,.int .i64 x.set.type,.int .i64 x.set.life,.sl (x.set.data.map Datum.enc),encSigs x.sigs])=l.map Signed.enc:=sets_next hx;have hset2:(l.map Signed.enc).set (k:Int).toNat (DV.agg [.str x.set.name,.int .i64 x.set.type,.int .i64 x.set.life,encData x.set.data,.sl (x.sigs.map Sig.enc)])=l.map Signed.enc:=sets_next hx;have hb:0≤(k:Int)∧(k:Int)<((l.map Signed.enc).length:Int):=⟨by omega,by simp; omega⟩;refine gO Tryz.func54 ?_;refine need_intro hb ?_;refine gO Tryz.func54 ?_;refine elemP_at (e:=x.enc) (at_map hx) rfl ?_;refine gO Tryz.func54 ?_;refine AWL.draw E_ok E_mixed 10 2000 (by kernel_rfl) ?_;(conv=>whnf);refine callP1_eq (cloneDatum_p (x.set.data.map Datum.enc) (by simpa using q1) (fun e h=>by obtain ⟨d,_,rfl⟩:=List.mem_map.1 h; simp [DV.cells])) ?_;refine gD ?_;refine need_intro hb ?_;refine gD ?_;refine gS ?_;refine elemP_at (e:=x.enc) (at_map hx) rfl ?_;refine gS ?_;refine gO Tryz.func54 ?_;rw [hset1];refine AWL.draw E_ok E_mixed 8 2000 (by kernel_rfl) ?_;(conv=>whnf);refine callP1_eq (cloneSig_p (x.sigs.map Sig.enc) (by simpa using q2) (fun e h=>by obtain ⟨d,_,rfl⟩:=List.mem_map.1 h; simp [DV.cells])) ?_;refine gD ?_;refine need_intro hb ?_;refine gD ?_;refine gS ?_;refine elemP_at (e:=x.enc) (at_map hx) rfl ?_;refine gS ?_;refine gO Tryz.func54 ?_;rw [hset2];refine AWL.back (IH (k+1) (by omega) (by omega)) ?_;(conv=>whnf);repeat (first | exact trivial | (refine sI ?_; conv=>whnf))
  ·refine gO Tryz.func54 ?_
   with_reducible rfl
end Go.Proofs.YthikfaephakahaaGreatDoor.P
