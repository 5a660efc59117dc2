/- Several texts of mine, one behind the other. Conditions: as each says. -/
import Derived.Test.YtcmnpelmmekdkaaGreatDoorY25
set_option linter.unusedVariables false
set_option linter.unusedSimpArgs false
section
namespace Go.Proofs.YtcmnpelmmekdkaaGreatDoor.P
open Go Go.ax
set_option maxRecDepth 100000
set_option maxHeartbeats 4000000
theorem Pd {α:Type} {l:List α} {k:Nat} {x:α} (h:l[k]? = some x):l.drop k=x::l.drop (k+1):=by
 obtain ⟨hk,e⟩:=List.getElem?_eq_some_iff.1 h;rw [List.drop_eq_getElem_cons hk,e]
theorem H9 (L M:List Text) (hl:L.length≤1000000):aA E 17 [.sl (L.map .str),.sl (M.map .str)] (· = .bool (decide (L=M))):=by
 refine eP Tryz.func17 ?_;by_cases h0:L.length=M.length
 ·refine aI (by simp; omega) ?_;refine gO Tryz.func17 ?_;refine aa.loop (κ:=Nat) ([4,5]++rg 11 15) (fun k=>[(5,.d (.int .i64 k))]) (fun _=>[]) (fun k=>k≤L.length∧L.take k=M.take k) (fun k=>L.length - k) 0 ⟨Nat.zero_le _,rfl⟩ ?_ ?_
  ·exact sZ
  rintro k ⟨hk,he⟩ IH;refine aa.head aj Tryz.func17 2000 ?_;(conv=>whnf);refine aw (fun h5=>?_) (fun h5=>?_)
  ·have ai:k<L.length:=by simpa using h5
   obtain ⟨x,hx⟩:=aY ai;obtain ⟨y,hy⟩:=aY (show k<M.length by omega);refine gO Tryz.func17 ?_;refine aa.draw aj bW 9 2000 (by kernel_rfl) ?_;(conv=>whnf);refine aF (e := .str x) (a7 hx) rfl ?_;refine gD ?_;refine aF (e := .str y) (a7 hy) rfl ?_;refine gD ?_;refine gS ?_;refine gO Tryz.func17 ?_;by_cases e:x=y
   ·refine aI (by simpa using e) ?_;refine gO Tryz.func17 ?_;refine aa.back (IH (k+1) ⟨by omega,by rw [eI hx,eI hy,he,e]⟩ (by omega)) ?_;exact sZ
   ·refine aM (by simpa using e) ?_;refine gO Tryz.func17 ?_;have:L≠M:=fun h=>e (by rw [h,hy] at hx; exact (Option.some.inj hx).symm);simp [this]
  ·have aP:L.length≤k:=by simpa using h5
   rw [List.take_of_length_le aP,List.take_of_length_le (by omega)] at he;refine gO Tryz.func17 ?_;simp [he]
 ·refine aM (by simp; omega) ?_;refine gO Tryz.func17 ?_;have:L≠M:=fun e=>h0 (by rw [e]);simp [this]
end Go.Proofs.YtcmnpelmmekdkaaGreatDoor.P
end
section
namespace Go.Proofs.YtcmnpelmmekdkaaGreatDoor.P
open Go Go.ax
set_option maxRecDepth 100000
set_option maxHeartbeats 4000000
end Go.Proofs.YtcmnpelmmekdkaaGreatDoor.P
end
section
namespace Go.Proofs.YtcmnpelmmekdkaaGreatDoor.P
open Go Go.ax
set_option maxRecDepth 100000
set_option maxHeartbeats 4000000
end Go.Proofs.YtcmnpelmmekdkaaGreatDoor.P
end
section
namespace Go.Proofs.YtcmnpelmmekdkaaGreatDoor.P
open Go Go.ax
set_option maxRecDepth 100000
set_option maxHeartbeats 4000000
theorem YA (z:aU) (q:aS):(ja z q).kind≠0∧(ja z q).kind≠7:=by
 unfold ja;repeat' split
 all_goals simp
theorem YB {z:aU} {q:aS} (h:(pQ z q).kind=0∨(pQ z q).kind=7):(pQ z q).af=[]:=by
 have hk:=YA z q
 revert h
 unfold pQ bO;repeat' split
 all_goals first | (intro h; rcases h with h | h <;> first | exact absurd h hk.1 | exact absurd h hk.2) | (intro h; rfl) | (intro h; simp at h)
theorem YC {a:ia} (h:a.kind=0∨a.kind=7→a.af=[]):norm (H6 a)=a.enc:=by
 unfold H6;by_cases e:a.kind=0∨a.kind=7
 ·rw [if_pos e];simp [norm,sA,ia.enc,h e]
 ·rw [if_neg e];rfl
theorem Az (z:aU) (q:aS) (hf:z.Fits) (hn:q.name.length≤maxLen):aA E 25 [z.enc,q.enc] (· = .aL [(pQ z q).enc,.int .i64 (pP z q)]):=by
 refine aA.norm ?_;refine (Yy z q hf hn).mono fun r h=>?_;subst h;have:=YC (YB (z:=z) (q:=q));simp only [norm,sA,this]
theorem YD (a b:ia) (hl:a.af.length≤2147483648) (ha:∀ s∈a.af,s.uL):aA E 27 [a.enc,b.enc] (· = .bool (decide (a=b))):=by
 have c1:=Vy a.af b.af hl ha;have e:decide (a=b)=(decide (a.af=b.af)&&decide (a.kind=b.kind)&&decide (a.cut=b.cut)):=by
  obtain ⟨ak,asl,ac⟩:=a;obtain ⟨bk,bs,bc⟩:=b;rw [Bool.eq_iff_iff];simp;constructor
  ·rintro ⟨h1,h2,h3⟩; exact ⟨⟨h2,h1⟩,h3⟩
  ·rintro ⟨⟨h1,h2⟩,h3⟩; exact ⟨h2,h1,h3⟩
 rw [e];generalize decide (a.af=b.af)=X at *;refine eP Tryz.func27 ?_;repeat' (first | with_reducible refine ar (c1) ?_ | with_reducible refine bg (c1) ?_ | with_reducible refine cY ?_ | with_reducible refine cN ?_ | with_reducible refine aw (fun _=>?_) (fun _=>?_) | refine gA Tryz.func27 ?_ | refine gB ?_ | refine gC ?_ | with_reducible rfl)
 all_goals simp_all
 all_goals (rw [Bool.eq_iff_iff]; simp)
end Go.Proofs.YtcmnpelmmekdkaaGreatDoor.P
end
section
namespace Go.Proofs.YtcmnpelmmekdkaaGreatDoor.P
open Go Go.ax
set_option maxRecDepth 100000
set_option maxHeartbeats 4000000
end Go.Proofs.YtcmnpelmmekdkaaGreatDoor.P
end
