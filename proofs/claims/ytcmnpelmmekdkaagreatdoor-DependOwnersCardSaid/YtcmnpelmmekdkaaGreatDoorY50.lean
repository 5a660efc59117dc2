/- Several texts of mine, one behind the other. Conditions: as each says. -/
import Derived.Test.YtcmnpelmmekdkaaGreatDoorY49
set_option linter.unusedVariables false
set_option linter.unusedSimpArgs false
namespace Go.Proofs.YtcmnpelmmekdkaaGreatDoor.P
open Go Go.ax
set_option maxRecDepth 100000
set_option maxHeartbeats 4000000
theorem QR {w:ca} {zs:List Text} {o:Int}:o∈gE w zs w.aq.length↔xR w zs o=true:=by
 rw [gE,List.take_length,IS];simp only [List.mem_map,List.mem_filter,decide_eq_true_eq];constructor
 ·rintro ⟨p,⟨a1,a2⟩,rfl⟩; exact ⟨p,a1,rfl,a2⟩
 ·rintro ⟨p,a1,rfl,a2⟩; exact ⟨p,⟨a1,a2⟩,rfl⟩
theorem aby {w:ca} {zs:List Text} (hr:∀ p∈w.aq,0≤kf w p∧kf w p<32):(fq (DV.int .i64) (gE w zs w.aq.length)).length=(nX w zs 32).length:=by
 rw [IT xD,List.length_map];have h:=QK (w:=w) (zs:=zs) (K:=fu [] (gE w zs w.aq.length)) (As List.nodup_nil) (fun o=>by rw [vg]; simp only [List.not_mem_nil,false_or]; rw [QR,IS]) hr;rw [← h];exact (A3 _).length_eq.symm
theorem abz (w:ca) (s:Text) (hg:w.Good) (hs:s.length≤maxLen):aA E 6 [w.enc,.str s] (· = .bool true):=by
 have c0:=DX;have c1:=DY w s hg hs;cases h0:((p7 w&&dn w)&&Nm.valid s)
 ·rw [h0] at c1;refine eP Tryz.func6 ?_;refine ar (c0) ?_;refine gO Tryz.func6 ?_;refine ar (c1) ?_;refine gO Tryz.func6 ?_;repeat' (first | with_reducible refine cY ?_ | with_reducible refine cN ?_ | with_reducible refine aw (fun _=>?_) (fun _=>?_) | refine gA Tryz.func6 ?_ | refine gB ?_ | refine gC ?_ | with_reducible rfl)
 rw [h0] at c1;have oY:=h0;simp only [Bool.and_eq_true] at oY;obtain ⟨⟨h1,h2⟩,h3⟩:=oY;obtain ⟨hf,hk,hh,-⟩:=A7 hg h1;have A4:=Qc h2;have hv:(dn w&&Nm.valid s)=true:=by rw [h2,h3]; rfl
 have d1:=xX w s hf hs;have d2:=Jb w s hf hs;have gG:=DZ (s:=s) hk;have hO:vz w s=nX w (ke w s) 32:=by rw [vz,ke,if_pos hv,if_pos hv]
 have hn:kL w s=0:=if_pos hv;rw [hn] at d1 d2;rw [hO] at d2;generalize ke w s=zs at *;have hr:∀ p∈w.aq,0≤kf w p∧kf w p<32:=fun p hp=>by
  obtain ⟨x,hx,q1,q2,q3,q4⟩:=A4 p hp;rw [q2]; exact ⟨q3,q4⟩
 have hlen:=aby (zs:=zs) hr;have fX:∀ o,o∈nX w zs 32→o∈gE w zs w.aq.length:=fun o ho=>QR.2 (P9.1 ho).2;have Jf:=P' (w:=w) (zs:=zs) (k:=32);have v8:=ZN (w:=w) (zs:=zs) (k:=32);generalize nX w zs 32=O at *;refine eP Tryz.func6 ?_;refine ar (c0) ?_;refine gO Tryz.func6 ?_;refine ar (c1) ?_;refine gO Tryz.func6 ?_;refine ba ?_;refine gO Tryz.func6 ?_;refine ar (d1) ?_;refine gO Tryz.func6 ?_;refine ar (d2) ?_;refine gO Tryz.func6 ?_;refine aI (by decide) ?_;refine gO Tryz.func6 ?_;refine aI (by decide) ?_;refine gO Tryz.func6 ?_;refine gO Tryz.func6 ?_;refine aa.loop (κ:=Nat) ([12]++rg 43 18) (fun k=>[(43,.d (.int .i64 k))]) (fun k=>[(1,.map (fq (DV.int .i64) (gE w zs k)))]) (fun k=>k≤w.aq.length) (fun k=>w.aq.length - k) 0 (Nat.zero_le _) ?_ ?_
 ·(conv=>whnf);repeat (first | exact trivial | (refine sI ?_; conv=>whnf))
  refine And.intro rfl ?_;exact sZ
 intro k lj IH;refine aa.head aj Tryz.func6 2000 ?_;(conv=>whnf);refine aw (fun h5=>?_) (fun h5=>?_)
 ·have ai:k<w.aq.length:=by simpa using h5
  obtain ⟨p,hp⟩:=aY ai;obtain ⟨x,hx,q1,q2,q3,q4⟩:=A4 p (List.mem_of_getElem? hp);have bS:=QL (zs:=zs) hp;have e1:=AR zs p.ay.ab (by omega);have vw:=Ja (pR xD (gE w zs k)).1;refine gO Tryz.func6 ?_;refine aF (e:=p.enc) (a7 hp) rfl ?_;refine gO Tryz.func6 ?_;refine ar (e1) ?_;refine gO Tryz.func6 ?_;by_cases hm:p.ay.ab∈zs
  ·rw [if_pos hm] at bS;refine aM (decide_eq_true hm) ?_;refine gO Tryz.func6 ?_;refine aF (e:=x.enc) ⟨q1,by rw [List.getElem?_map,hx]; rfl⟩ rfl ?_;refine gO Tryz.func6 ?_;refine bQ ⟨⟨_,rfl⟩,vw⟩ ?_;refine gO Tryz.func6 ?_;refine aa.back (IH (k+1) (by omega) (by omega)) ?_;(conv=>whnf);repeat (first | exact trivial | (refine sI ?_; conv=>whnf))
   refine And.intro (by rw [bS,xC,q2]) ?_;exact sZ
  ·rw [if_neg hm] at bS;refine aI (decide_eq_false hm) ?_;refine gO Tryz.func6 ?_;refine aa.back (IH (k+1) (by omega) (by omega)) ?_;(conv=>whnf);repeat (first | exact trivial | (refine sI ?_; conv=>whnf))
   refine And.intro (by rw [bS]) ?_;exact sZ
 have aP : k = w.aq.length := by have : w.aq.length ≤ k := by simpa using h5
                                 omega
 subst aP;have dD:=Ja (pR xD (gE w zs w.aq.length)).1;have abA:=Ar xD (gE w zs w.aq.length);have abB:∀ o∈O,o∈gE w zs w.aq.length:=fX;generalize gE w zs w.aq.length=K at *;refine gO Tryz.func6 ?_;refine aa.loop (κ:=Nat) ([4,13,14]++rg 63 23) (fun k=>[(63,.d (.int .i64 k))]) (fun _=>[]) (fun k=>k≤O.length) (fun k=>O.length - k) 0 (Nat.zero_le _) ?_ ?_
 ·exact sZ
 intro k uH IK;refine aa.head aj Tryz.func6 2000 ?_;(conv=>whnf);refine aw (fun h6=>?_) (fun h6=>?_)
 ·have ai:k<O.length:=by simpa using h6
  obtain ⟨o,ho⟩:=aY ai;obtain ⟨mG,s9⟩:=abA o;rw [decide_eq_true (abB o (List.mem_of_getElem? ho))] at mG s9;refine gO Tryz.func6 ?_;refine aF (e := .int .i64 o) (a7 ho) rfl ?_;refine gO Tryz.func6 ?_;refine iR (.bool false) (.bool false) ⟨_,rfl⟩ dD (fun w=>by kernel_rfl) (fun _ _ => .bool _) mG s9 ?_;refine gO Tryz.func6 ?_;refine aI (by decide) ?_;refine gO Tryz.func6 ?_;by_cases df:k=0
  ·subst df;refine aI (by decide) ?_;refine gO Tryz.func6 ?_;refine aI (by decide) ?_;refine gO Tryz.func6 ?_;refine aa.back (IK 1 (by omega) (by omega)) ?_;exact sZ
  ·obtain ⟨y,hy⟩:=aY (l:=O) (k:=k - 1) (by omega);have Jg:IntKind.i64.wrap ((k:Int) - 1)=((k - 1:Nat):Int):=by rw [wrap64 (by omega) (by omega)]; omega
   have gX:y<o:=by
    have h8:=List.pairwise_iff_getElem.1 Jf (k - 1) k (by omega) ai (by omega);have e1:=(List.getElem?_eq_some_iff.1 hy).2;have e2:=(List.getElem?_eq_some_iff.1 ho).2;rw [e1,e2] at h8
    simpa using h8
   refine aM (decide_eq_true (by omega)) ?_;refine gO Tryz.func6 ?_;refine aF (e := .int .i64 y) (by rw [Jg]; exact a7 hy) rfl ?_;refine gO Tryz.func6 ?_;refine aI (decide_eq_false (by omega)) ?_;refine gO Tryz.func6 ?_;refine aa.back (IK (k+1) (by omega) (by omega)) ?_;exact sZ
 ·refine gO Tryz.func6 ?_;refine bq ?_;refine gO Tryz.func6 ?_;refine gO Tryz.func6 ?_;rw [List.length_map,hlen];simp
theorem abC (w:ca) (s:Text) (g0:w.Good) (g1:s.length≤maxLen):aA E 6 [w.enc,.str s] (· = .bool true):=abz w s g0 g1
end Go.Proofs.YtcmnpelmmekdkaaGreatDoor.P
