/- Contracts by the engine: package copies: which versions are right, and its reference. Conditions: lengths that Go allows. -/
import Derived.Test.YthikfaephakahaaGreatDoorZP95
set_option linter.unusedVariables false
set_option linter.unusedSimpArgs false
namespace Go.Proofs.YthikfaephakahaaGreatDoor.P
open Go Go.Eng
set_option maxRecDepth 100000
set_option maxHeartbeats 4000000
def Zone.Fewer (z:Zone):Prop:=z.sets.length≤2147483648∧∀ s∈z.sets,s.set.data.length≤2147483648∧s.sigs.length≤2147483648
theorem eqFunc_a (a b:List Signed) (hl:a.length≤2147483648) (he:∀ s∈a,s.set.data.length≤2147483648∧s.sigs.length≤2147483648):ACalls E 121 [] [.d (.sl (a.map Signed.enc)),.d (.sl (b.map Signed.enc)),.fn (.func 122) [] []] (fun x y=>x = .d (.bool (decide (a=b)))∧(y=[]∨∃ u w:Signed,y=[.cells [.d (.str u.set.name),.d (.int .i64 u.set.type),.d (.int .i64 u.set.life),.d (encData u.set.data),.d (encSigs u.sigs)],.cells [.d (.str w.set.name),.d (.int .i64 w.set.type),.d (.int .i64 w.set.life),.d (encData w.set.data),.d (encSigs w.sigs)]])):=by
 refine ACalls.run E_ok (fn:=Tryz.f121) Tryz.func121 (body:=Tryz.f121.body.getD .skip) rfl (by decide) 2000 rfl ?_;(conv=>whnf);refine caseB_split (fun h3=>?_) (fun h3=>?_)
 ·have hne:a≠b:=by rintro rfl; simp at h3
  rw [decide_eq_false hne];refine gO Tryz.func121 ?_;exact ⟨rfl,.inl rfl⟩
 have hl2:a.length=b.length:=by simp at h3; omega
 refine gO Tryz.func121 ?_;refine AWL.loop (κ:=Nat) (rg 6 4++rg 17 15) (fun k=>[(17,.d (.int .i64 k))]) (fun _=>[]) (fun k=>k≤a.length∧a.take k=b.take k) (fun k=>a.length - k) 0 ⟨Nat.zero_le _,rfl⟩ ?_ ?_
 ·(conv=>whnf);repeat (first | exact trivial | (refine sI ?_; conv=>whnf))
 intro k hk IH;refine AWL.head E_ok Tryz.func121 2000 ?_;(conv=>whnf);refine caseB_split (fun h7=>?_) (fun h7=>?_)
 ·have hlt:k<a.length:=by simpa using h7
  obtain ⟨u,hu⟩:=some_of_lt hlt;obtain ⟨w,hw⟩:=some_of_lt (l:=b) (k:=k) (by omega);have hue:=he u (List.mem_of_getElem? hu);have c1:=sameZ1_p u w hue.1 hue.2;refine gO Tryz.func121 ?_;refine elemP_at (e:=u.enc) (at_map hu) rfl ?_;refine gO Tryz.func121 ?_;refine elemP_at (e:=w.enc) (at_map hw) rfl ?_;refine gO Tryz.func121 ?_;refine callP_eq (c1) ?_;refine gO Tryz.func121 ?_;by_cases h8:u=w
  ·rw [decide_eq_true h8];refine caseB_false ?_;refine gO Tryz.func121 ?_;refine AWL.back (IH (k+1) ⟨by omega,takeEq_next hk.2 hu hw h8⟩ (by omega)) ?_;(conv=>whnf);repeat (first | exact trivial | (refine sI ?_; conv=>whnf))
  ·rw [decide_eq_false h8];refine caseB_true ?_;refine gO Tryz.func121 ?_;rw [decide_eq_false (ne_of_at hu hw h8)];exact ⟨rfl,.inr ⟨_,_,rfl⟩⟩
 ·have hge:k=a.length:=by simp at h7; omega
  have heb:a=b:=takeEq_all hk.2 (by omega) (by omega);refine gO Tryz.func121 ?_;exact ⟨by simp [heb],.inl rfl⟩
theorem sameZone15_p (a b:Zone) (hf:a.Fewer):PCalls E 63 [a.enc,b.enc] (· = .bool (decide (a=b))):=by
 obtain ⟨a1,a2⟩:=a;obtain ⟨b1,b2⟩:=b;obtain ⟨hl,he⟩:=hf;simp only at hl he;have c1:=eqFunc_a a2 b2 hl he;show PCalls E _ [DV.agg [.str a1,.sl (a2.map Signed.enc)],DV.agg [.str b1,.sl (b2.map Signed.enc)]] _;refine eP Tryz.func63 ?_;refine caseB_split (fun h1=>?_) (fun h1=>?_)
 ·have e1:a1=b1:=by simpa using h1
  subst e1;have e2:decide (a2=b2)=decide ((⟨a1,a2⟩:Zone)=⟨a1,b2⟩):=by simp
  rw [← e2];refine gO Tryz.func63 ?_;refine callS_any c1 ?_;rintro r h2 ⟨rfl,rfl | ⟨c,d,rfl⟩⟩
  ·refine gO Tryz.func63 ?_
   with_reducible rfl
  ·refine gO Tryz.func63 ?_
   with_reducible rfl
 ·have e1:a1≠b1:=by simpa using h1
  have e2:decide ((⟨a1,a2⟩:Zone)=⟨b1,b2⟩)=false:=by simp [e1]
  rw [e2];refine gO Tryz.func63 ?_
  with_reducible rfl
end Go.Proofs.YthikfaephakahaaGreatDoor.P
