/- Several texts of mine, one behind the other. Conditions: as each says. -/
import Derived.Test.YtcmnpelmmekdkaaGreatDoorY37
set_option linter.unusedVariables false
set_option linter.unusedSimpArgs false
namespace Go.Proofs.YtcmnpelmmekdkaaGreatDoor.P
open Go Go.ax
set_option maxRecDepth 100000
set_option maxHeartbeats 4000000
theorem AR (l:List Text) (t:Text) (hl:l.length≤2147483648):aA E 23 [.sl (l.map .str),.str t] (· = .bool (decide (t∈l))):=by
 refine eP Tryz.func23 ?_;refine aa.loop (κ:=Nat) (rg 4 14) (fun k=>[(5,.d (.int .i64 k))]) (fun _=>[]) (fun k=>k≤l.length∧(t∈l↔t∈l.drop k)) (fun k=>l.length - k) 0 ⟨Nat.zero_le _,by simp⟩ ?_ ?_
 ·exact sZ
 rintro k ⟨hk,hm⟩ IH;refine aa.head aj Tryz.func23 2000 ?_;(conv=>whnf);refine aw (fun h5=>?_) (fun h5=>?_)
 ·have ai:k<l.length:=by simpa using h5
  obtain ⟨x,hx⟩:=aY ai;rw [Pd hx,List.mem_cons] at hm;refine gO Tryz.func23 ?_;refine aF (e := .str x) (a7 hx) rfl ?_;refine gO Tryz.func23 ?_;by_cases h6:x=t
  ·refine aM (by simpa using h6) ?_;refine gO Tryz.func23 ?_;rw [decide_eq_true (hm.2 (.inl h6.symm))]
  ·refine aI (by simpa using h6) ?_;refine gO Tryz.func23 ?_;refine aa.back (IH (k+1) ⟨by omega,hm.trans ⟨fun h=>h.resolve_left fun e=>h6 e.symm,.inr⟩⟩ (by omega)) ?_;exact sZ
 ·have aP:l.length≤k:=by simpa using h5
  rw [List.drop_eq_nil_of_le aP] at hm;refine gO Tryz.func23 ?_;rw [decide_eq_false (fun h=>by have:=hm.1 h; simp at this)]
theorem ZB (a b:List aS) (hl:a.length≤2147483648):aA E 18 [.sl (a.map aS.enc),.sl (b.map aS.enc)] (· = .bool (decide (a=b))):=by
 refine eP Tryz.func18 ?_;refine aw (fun h5=>?_) (fun h5=>?_)
 ·have aJ:a.length≠b.length:=by simp at h5; omega
  refine gO Tryz.func18 ?_;rw [decide_eq_false (fun e=>aJ (by rw [e]))]
 have hlen:a.length=b.length:=by simp at h5; omega
 refine gO Tryz.func18 ?_;refine aa.loop (κ:=Nat) ([4,5]++rg 11 15) (fun k=>[(5,.d (.int .i64 k))]) (fun _=>[]) (fun k=>k≤a.length∧a.take k=b.take k) (fun k=>a.length - k) 0 ⟨Nat.zero_le _,by simp⟩ ?_ ?_
 ·exact sZ
 rintro k ⟨hk,hm⟩ IH;refine aa.head aj Tryz.func18 2000 ?_;(conv=>whnf);refine aw (fun h6=>?_) (fun h6=>?_)
 ·have ai:k<a.length:=by simpa using h6
  obtain ⟨u,hu⟩:=aY ai;obtain ⟨v,hv⟩:=aY (l:=b) (k:=k) (by omega);refine gO Tryz.func18 ?_;refine aa.draw aj bW 8 2000 (by kernel_rfl) ?_;(conv=>whnf);refine aF (e:=u.enc) (a7 hu) rfl ?_;refine gD ?_;refine aF (e:=v.enc) (a7 hv) rfl ?_;refine gD ?_;refine gS ?_;refine gO Tryz.func18 ?_;by_cases g:u=v
  ·refine aI (by subst g; simp) ?_;refine gO Tryz.func18 ?_;refine aa.back (IH (k+1) ⟨by omega,by rw [List.take_add_one,List.take_add_one,hu,hv,hm,g]⟩ (by omega)) ?_;exact sZ
  ·refine aM (by obtain ⟨un,ut⟩:=u; obtain ⟨vn,vt⟩:=v; simp at g ⊢; exact Classical.or_iff_not_imp_left.2 fun h=>g (Classical.not_not.1 h)) ?_;refine gO Tryz.func18 ?_;rw [decide_eq_false (fun e=>g (by subst e; exact Option.some.inj (hu.symm.trans hv)))]
 ·have aP:a.length≤k:=by simpa using h6
  rw [List.take_of_length_le aP,List.take_of_length_le (by omega)] at hm;refine gO Tryz.func18 ?_;rw [decide_eq_true hm]
def IB (x:cu):Prop:=x.bH.name.length≤1000∧x.other.length≤1000
end Go.Proofs.YtcmnpelmmekdkaaGreatDoor.P
