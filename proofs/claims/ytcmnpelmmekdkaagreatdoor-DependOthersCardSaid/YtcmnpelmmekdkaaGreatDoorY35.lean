/- Several texts of mine, one behind the other. Conditions: as each says. -/
import Derived.Test.YtcmnpelmmekdkaaGreatDoorY33
set_option linter.unusedVariables false
set_option linter.unusedSimpArgs false
namespace Go.Proofs.YtcmnpelmmekdkaaGreatDoor.P
open Go Go.ax
set_option maxRecDepth 100000
set_option maxHeartbeats 4000000
theorem rI {l:List aB} {ab:Text} {n:Nat} : -1≤dS l ab n∧dS l ab n<n:=by
 rcases vj (l:=l) (ab:=ab) n with ⟨h,-⟩ | ⟨k,q,h,h2⟩
 ·omega
 ·have:=h2.lt; omega
theorem PD (l:List aB) (ab:Text) (H:dW l) (hl:l.length≤1000000):aA E 21 [.sl (l.map aB.enc),.str ab] (· = .int .i64 (fh l ab)):=by
 refine eP Tryz.func21 ?_;refine aa.loop (κ:=Nat) (rg 5 55) (fun k=>[(6,.d (.int .i64 k)),(5,.d (.int .i64 (dS l ab k)))]) (fun _=>[]) (fun k=>k≤l.length) (fun k=>l.length - k) 0 (Nat.zero_le _) ?_ ?_
 ·(conv=>whnf);repeat (first | exact trivial | (refine sI ?_; conv=>whnf))
  refine And.intro rfl ?_;exact sZ
 intro k hk IH;have hb:=rI (l:=l) (ab:=ab) (n:=k);have bS:dS l ab (k+1)=xH l ab (dS l ab k) k:=rfl;have fQ:=vj (l:=l) (ab:=ab) k;generalize yR:dS l ab k=b at hb bS fQ ⊢;refine aa.head aj Tryz.func21 2000 ?_;(conv=>whnf);refine aw (fun h5=>?_) (fun h5=>?_)
 ·have ai:k<l.length:=by simpa using h5
  obtain ⟨p,hp⟩:=aY ai;have hz:=H p (List.mem_of_getElem? hp);rw [xH,hp] at bS;simp only at bS;refine gO Tryz.func21 ?_;refine aF (e:=p.enc) (a7 hp) rfl ?_;refine gO Tryz.func21 ?_;by_cases ha:p.ay.ab=ab
  ·rw [if_pos ha] at bS;refine aI (by simpa using ha) ?_;refine gO Tryz.func21 ?_;by_cases h0:b<0
   ·rw [if_pos h0] at bS;refine aM (decide_eq_true h0) ?_;refine gO Tryz.func21 ?_;refine aa.back (IH (k+1) (by omega) (by omega)) ?_;rw [bS];exact sZ
   ·rw [if_neg h0] at bS;obtain ⟨m,rfl⟩:∃ m:Nat,b=m:=⟨b.toNat,by omega⟩;obtain ⟨q,hq⟩:=aY (l:=l) (k:=m) (by omega);have Y7:=H q (List.mem_of_getElem? hq);rw [Int.toNat_natCast,hq] at bS;simp only at bS;refine aI (decide_eq_false h0) ?_;refine gO Tryz.func21 ?_;refine aF (e:=p.enc) (a7 hp) rfl ?_;refine gO Tryz.func21 ?_;refine ar (Oq p.ay hz) ?_;refine gO Tryz.func21 ?_;refine aF (e:=q.enc) (a7 hq) rfl ?_;refine gO Tryz.func21 ?_;refine ar (Oq q.ay Y7) ?_;refine gO Tryz.func21 ?_;by_cases h1:gZ p.ay>gZ q.ay
    ·have hf:dV p q=true:=by simp [dV]; omega
     rw [hf,if_pos rfl] at bS;refine aa.draw aj bW 20 2000 (by kernel_rfl) ?_;(conv=>whnf);refine aM (decide_eq_true h1) ?_;refine gD ?_;refine gS ?_;refine gO Tryz.func21 ?_;refine bq ?_;refine gO Tryz.func21 ?_;refine aa.back (IH (k+1) (by omega) (by omega)) ?_;rw [bS];exact sZ
    ·refine aa.draw aj bW 20 2000 (by kernel_rfl) ?_;(conv=>whnf);refine aI (decide_eq_false h1) ?_;refine gD ?_;by_cases h2:gZ p.ay=gZ q.ay
     ·refine aM (by simpa using h2) ?_;refine gD ?_;refine aF (e:=p.enc) (a7 hp) rfl ?_;refine gD ?_;refine aF (e:=q.enc) (a7 hq) rfl ?_;refine gD ?_;refine gS ?_;refine gO Tryz.func21 ?_;by_cases h3:p.host<q.host
      ·have hf:dV p q=true:=by simp [dV]; omega
       rw [hf,if_pos rfl] at bS;refine aM (decide_eq_true h3) ?_;refine gO Tryz.func21 ?_;refine aa.back (IH (k+1) (by omega) (by omega)) ?_;rw [bS];exact sZ
      ·have hf:dV p q=false:=by simp [dV]; omega
       rw [hf,if_neg (by decide)] at bS;refine aI (decide_eq_false h3) ?_;refine gO Tryz.func21 ?_;refine aa.back (IH (k+1) (by omega) (by omega)) ?_;rw [bS];exact sZ
     ·have hf:dV p q=false:=by simp [dV]; omega
      rw [hf,if_neg (by decide)] at bS;refine aI (by simpa using h2) ?_;refine gD ?_;refine gS ?_;refine gO Tryz.func21 ?_;refine ba ?_;refine gO Tryz.func21 ?_;refine aa.back (IH (k+1) (by omega) (by omega)) ?_;rw [bS];exact sZ
  ·rw [if_neg ha] at bS;refine aM (by simpa using ha) ?_;refine gO Tryz.func21 ?_;refine aa.back (IH (k+1) (by omega) (by omega)) ?_;rw [bS];exact sZ
 ·have aP:l.length≤k:=by simpa using h5
  obtain rfl:k=l.length:=by omega
  refine gO Tryz.func21 ?_;rw [← yR];rfl
end Go.Proofs.YtcmnpelmmekdkaaGreatDoor.P
