/- Several texts of mine, one behind the other. Conditions: as each says. -/
import Derived.Test.YtcmnpelmmekdkaaGreatDoorY49
set_option linter.unusedVariables false
set_option linter.unusedSimpArgs false
namespace Go.Proofs.YtcmnpelmmekdkaaGreatDoor.P
open Go Go.ax
set_option maxRecDepth 100000
set_option maxHeartbeats 4000000
theorem abD {l:List aB} (H:dW l) (s:Text):∃ v r,dM l s=v::r∧v.name=s∧v.list=[]∧v.aq=(gz l s).1:=by
 have B:=lB H s;cases hV:dM l s with
 |nil=>have:=AH (s:=s) H; rw [hV] at this; cases this
 |cons v r =>
  rw [hV] at B;have h0:(v::r)[0]? = some v:=rfl;rcases B.prev 0 v (by simp) with ⟨-,h2,h3,-⟩ | ⟨b,u,x,-,h2,-⟩
  ·exact ⟨v,r,rfl,h3,h2,by rw [(B.shut v (List.mem_cons_self ..)).1,h3]⟩
  ·omega
theorem QS {w:ca} {s z:Text} (h:(dn w&&(Nm.valid s&&Nm.valid z))=true) (hz:z∈(gz w.aq s).1):jd w s z=([],0):=by
 rw [DU w s z h];simp only [Bool.and_eq_true] at h;obtain ⟨v,r,h1,h2,h3,h4⟩:=abD (mj h.1).1 s;rw [h1,List.find?_cons,h4,decide_eq_true hz];simp [h3]
theorem abE {w:ca} {s z:Text} (h:(dn w&&(Nm.valid s&&Nm.valid z))=true) (hz:z∈cB w.aq s):(jd w s z).2=0∧∀ q∈(jd w s z).1,(q.type=2∧q.name∈cB w.aq s)∨q.type=3:=by
 rw [DU w s z h];simp only [Bool.and_eq_true] at h;obtain ⟨H,hl⟩:=mj h.1;have B:=lB H s;cases hf:(dM w.aq s).find? (fun v=>decide (z∈v.aq)) with
 |none =>
  obtain ⟨v,hv,pb⟩:=List.mem_flatMap.1 (lC.1 hz);have:=List.find?_eq_none.1 hf v hv;exact absurd (decide_eq_true pb) this
 |some v =>
  refine ⟨rfl,fun q hq=>?_⟩;obtain ⟨i,hi⟩:=List.getElem?_of_mem (List.mem_of_find?_eq_some hf);obtain ⟨n,hn,x,hx,rfl⟩:=B.asked i v hi q hq;rcases Ih (vp.1 hx) with ⟨a1,a2⟩ | a1
  ·exact .inl ⟨a1,lC.2 (B.s6.2 ⟨n,hn,a2⟩)⟩
  ·exact .inr (by rw [a1])
theorem abF {w:ca} {s z:Text} (h:(dn w&&(Nm.valid s&&Nm.valid z))=true) (hz:z ∉ cB w.aq s):jd w s z=([],4):=by
 rw [DU w s z h];cases hf:(dM w.aq s).find? (fun v=>decide (z∈v.aq)) with
 |none=>rfl
 |some v =>
  have h1:=List.find?_some hf;exact absurd (lC.2 (List.mem_flatMap.2 ⟨v,List.mem_of_find?_eq_some hf,by simpa using h1⟩)) hz
theorem A9 {l:List aB} {ab:Text} (h:0≤fh l ab):∃ k p,fh l ab=(k:Nat)∧xI l ab l.length k p:=by
 rcases vj (l:=l) (ab:=ab) l.length with ⟨h1,-⟩ | h2
 ·unfold fh at h; omega
 ·exact h2
theorem abG (w:ca) (s z:Text) (hg:w.Good) (hs:s.length≤maxLen) (gG:z.length≤maxLen):aA E 5 [w.enc,.str s,.str z] (· = .bool true):=by
 have c0:=DX;have c1:=DY w s hg hs;have c2:=fY z gG;cases h0:((p7 w&&dn w)&&Nm.valid s)
 ·rw [h0] at c1;refine eP Tryz.func5 ?_;refine ar (c0) ?_;refine gO Tryz.func5 ?_;refine ar (c1) ?_;refine gO Tryz.func5 ?_;repeat' (first | with_reducible refine cY ?_ | with_reducible refine cN ?_ | with_reducible refine aw (fun _=>?_) (fun _=>?_) | refine gA Tryz.func5 ?_ | refine gB ?_ | refine gC ?_ | with_reducible rfl)
 rw [h0] at c1;cases h4:Nm.valid z
 ·rw [h4] at c2;refine eP Tryz.func5 ?_;refine ar (c0) ?_;refine gO Tryz.func5 ?_;refine ar (c1) ?_;refine gO Tryz.func5 ?_;refine ba ?_;refine gO Tryz.func5 ?_;refine ar (c2) ?_;refine gO Tryz.func5 ?_;refine bq ?_;refine gO Tryz.func5 ?_
  with_reducible rfl
 rw [h4] at c2;have oY:=h0;simp only [Bool.and_eq_true] at oY;obtain ⟨⟨h1,h2⟩,h3⟩:=oY;obtain ⟨hf,hk,hh,-⟩:=A7 hg h1;have hv:(dn w&&Nm.valid s)=true:=by rw [h2,h3]; rfl
 have D0:(dn w&&(Nm.valid s&&Nm.valid z))=true:=by rw [h2,h3,h4]; rfl
 have d1:=xX w s hf hs;have d2:=A6 w s z hf hs gG;have mi:=DZ (s:=s) hk;have hZ:ke w s=cB w.aq s:=if_pos hv;have hn:kL w s=0:=if_pos hv;rw [hn,hZ] at d1;rw [hZ] at mi;obtain ⟨H,hl⟩:=mj h2;have d3:=AR (cB w.aq s) z (by omega);have d4:=PD w.aq [46] H (by omega);have hq:fp ⟨s,1⟩=true:=by simp [fp,h3]
 have A':∀ k p,fh w.aq [46]=(k:Nat)→xI w.aq [46] w.aq.length k p→(bO p.ay ⟨s,1⟩).kind=4→(bO p.ay ⟨s,1⟩).cut=z→jd w s z=([],0):=fun k p e1 e2 e3 e4=>by
  refine QS D0 ?_;have h5:dz w.aq [46]=some p.ay:=AN e1 e2.at_;rw [← e4];exact YK h5 e3
 by_cases dT:z∈cB w.aq s
 ·obtain ⟨q1,q2⟩:=abE D0 dT;have abH:z=[46]→(jd w s z).1=[]:=fun e=>by rw [QS D0 (by rw [e]; exact vq)]
  have mU:∀ q∈(jd w s z).1,q.type=2→aA E 23 [.sl ((cB w.aq s).map .str),.str q.name] (· = .bool true):=fun q hq ht=>by
   have h5:=AR (cB w.aq s) q.name (by omega);rw [decide_eq_true ((q2 q hq).resolve_right (fun e=>by omega)).2] at h5;exact h5
  have A0:=abx (w:=w) (s:=s) (z:=z);have QT:∀ k p,fh w.aq [46]=(k:Nat)→xI w.aq [46] w.aq.length k p→(bO p.ay ⟨s,1⟩).kind=4→(bO p.ay ⟨s,1⟩).cut=z→(jd w s z).1=[]:=fun k p e1 e2 e3 e4=>by rw [A' k p e1 e2 e3 e4]
  rw [q1] at d2;rw [decide_eq_true dT] at d3;generalize (jd w s z).1=Q at *;refine eP Tryz.func5 ?_;refine ar (c0) ?_;refine gO Tryz.func5 ?_;refine ar (c1) ?_;refine gO Tryz.func5 ?_;refine ba ?_;refine gO Tryz.func5 ?_;refine ar (c2) ?_;refine gO Tryz.func5 ?_;refine ba ?_;refine gO Tryz.func5 ?_;refine ar (d1) ?_;refine gO Tryz.func5 ?_;refine ar (d2) ?_;refine gO Tryz.func5 ?_;refine aI (by decide) ?_;refine gO Tryz.func5 ?_;refine ar (d3) ?_;refine gO Tryz.func5 ?_;refine aI (by decide) ?_;refine gO Tryz.func5 ?_;refine aI (by decide) ?_;refine gO Tryz.func5 ?_;refine aI (by decide) ?_;refine gO Tryz.func5 ?_;refine aI (by decide) ?_;refine gO Tryz.func5 ?_;refine aI (by decide) ?_;refine gO Tryz.func5 ?_;refine aa.loop (κ:=Nat) ([6,13]++rg 70 25) (fun k=>[(70,.d (.int .i64 k))]) (fun _=>[]) (fun k=>k≤Q.length) (fun k=>Q.length - k) 0 (Nat.zero_le _) ?_ ?_
  ·exact sZ
  intro k lj IH;refine aa.head aj Tryz.func5 2000 ?_;(conv=>whnf);refine aw (fun h6=>?_) (fun h6=>?_)
  ·have ai:k<Q.length:=by simpa using h6
   obtain ⟨q,QU⟩:=aY ai;have eo:=List.mem_of_getElem? QU;refine gO Tryz.func5 ?_;refine aF (e:=q.enc) (a7 QU) rfl ?_;refine gO Tryz.func5 ?_;by_cases g:q.type=2
   ·have h9:=mU q eo g;refine aI (by simpa using g) ?_;refine gO Tryz.func5 ?_;refine aI (by decide) ?_;refine gO Tryz.func5 ?_;refine aM (by simpa using g) ?_;refine gO Tryz.func5 ?_;refine ar (h9) ?_;refine gO Tryz.func5 ?_;refine aI (by decide) ?_;refine gO Tryz.func5 ?_;refine aa.back (IH (k+1) (by omega) (by omega)) ?_;exact sZ
   ·have g3:q.type=3:=(q2 q eo).resolve_left fun e=>g e.1;refine aM (by simpa using g) ?_;refine gO Tryz.func5 ?_;refine aI (by simpa using g3) ?_;refine gO Tryz.func5 ?_;refine aI (by simpa using g) ?_;refine gO Tryz.func5 ?_;refine aI (by decide) ?_;refine gO Tryz.func5 ?_;refine aa.back (IH (k+1) (by omega) (by omega)) ?_;exact sZ
  refine gO Tryz.func5 ?_;by_cases sH:z=[46]
  ·have hQ:=abH sH;subst hQ;refine aM (by simpa using sH) ?_;refine gO Tryz.func5 ?_;refine aI (by decide) ?_;refine gO Tryz.func5 ?_;by_cases hc:0≤fh w.aq [46]
   ·obtain ⟨k,p,q3,q4⟩:=A9 hc;have hp:=List.mem_of_getElem? q4.at_;obtain ⟨a1,a2⟩:=AO (q:=⟨s,1⟩) (H p hp) hq;have d5:=Az p.ay ⟨s,1⟩ (hf.aq p hp) hs;rw [a1,a2] at d5;rw [q3] at d4;have hcut:=A' k p q3 q4;refine ar (d4) ?_;refine gO Tryz.func5 ?_;refine aI (decide_eq_false (by omega)) ?_;refine gO Tryz.func5 ?_;refine aF (e:=p.enc) (a7 q4.at_) rfl ?_;refine gO Tryz.func5 ?_;refine ar (d5) ?_;refine gO Tryz.func5 ?_;refine bq ?_;refine gO Tryz.func5 ?_;refine aM (by decide) ?_;refine gO Tryz.func5 ?_;by_cases g4:(bO p.ay ⟨s,1⟩).kind=4
    ·refine aI (by simpa using g4) ?_;refine gO Tryz.func5 ?_;by_cases g5:(bO p.ay ⟨s,1⟩).cut=z
     ·have hQ:=QT k p q3 q4 g4 g5;try subst hQ
      refine aI (by simpa using g5) ?_;refine gO Tryz.func5 ?_;refine bq ?_;refine gO Tryz.func5 ?_;rfl
     ·refine aM (by simpa using g5) ?_;refine gO Tryz.func5 ?_
      with_reducible rfl
    ·refine aM (by simpa using g4) ?_;refine gO Tryz.func5 ?_;refine bq ?_;refine gO Tryz.func5 ?_
     with_reducible rfl
   ·have nB:fh w.aq [46] = -1:=by have:=(rI (l:=w.aq) (ab:=[46]) (n:=w.aq.length)).1; unfold fh at hc ⊢; omega
    rw [nB] at d4;refine ar (d4) ?_;refine gO Tryz.func5 ?_;refine aM (by decide) ?_;refine gO Tryz.func5 ?_
    with_reducible rfl
  ·refine aI (by simpa using sH) ?_;refine gO Tryz.func5 ?_;refine ba ?_;refine gO Tryz.func5 ?_;by_cases hc:0≤fh w.aq [46]
   ·obtain ⟨k,p,q3,q4⟩:=A9 hc;have hp:=List.mem_of_getElem? q4.at_;obtain ⟨a1,a2⟩:=AO (q:=⟨s,1⟩) (H p hp) hq;have d5:=Az p.ay ⟨s,1⟩ (hf.aq p hp) hs;rw [a1,a2] at d5;rw [q3] at d4;have hcut:=A' k p q3 q4;refine ar (d4) ?_;refine gO Tryz.func5 ?_;refine aI (decide_eq_false (by omega)) ?_;refine gO Tryz.func5 ?_;refine aF (e:=p.enc) (a7 q4.at_) rfl ?_;refine gO Tryz.func5 ?_;refine ar (d5) ?_;refine gO Tryz.func5 ?_;refine bq ?_;refine gO Tryz.func5 ?_;refine aM (by decide) ?_;refine gO Tryz.func5 ?_;by_cases g4:(bO p.ay ⟨s,1⟩).kind=4
    ·refine aI (by simpa using g4) ?_;refine gO Tryz.func5 ?_;by_cases g5:(bO p.ay ⟨s,1⟩).cut=z
     ·have hQ:=QT k p q3 q4 g4 g5;try subst hQ
      refine aI (by simpa using g5) ?_;refine gO Tryz.func5 ?_;refine bq ?_;refine gO Tryz.func5 ?_;rfl
     ·refine aM (by simpa using g5) ?_;refine gO Tryz.func5 ?_
      with_reducible rfl
    ·refine aM (by simpa using g4) ?_;refine gO Tryz.func5 ?_;refine bq ?_;refine gO Tryz.func5 ?_
     with_reducible rfl
   ·have nB:fh w.aq [46] = -1:=by have:=(rI (l:=w.aq) (ab:=[46]) (n:=w.aq.length)).1; unfold fh at hc ⊢; omega
    rw [nB] at d4;refine ar (d4) ?_;refine gO Tryz.func5 ?_;refine aM (by decide) ?_;refine gO Tryz.func5 ?_
    with_reducible rfl
 ·have q1:=abF D0 dT;rw [q1] at d2;rw [decide_eq_false dT] at d3;refine eP Tryz.func5 ?_;refine ar (c0) ?_;refine gO Tryz.func5 ?_;refine ar (c1) ?_;refine gO Tryz.func5 ?_;refine ba ?_;refine gO Tryz.func5 ?_;refine ar (c2) ?_;refine gO Tryz.func5 ?_;refine ba ?_;refine gO Tryz.func5 ?_;refine ar (d1) ?_;refine gO Tryz.func5 ?_;refine ar (d2) ?_;refine gO Tryz.func5 ?_;refine aI (by decide) ?_;refine gO Tryz.func5 ?_;refine ar (d3) ?_;refine gO Tryz.func5 ?_;refine aI (by decide) ?_;refine gO Tryz.func5 ?_;refine aM (by decide) ?_;refine gO Tryz.func5 ?_;refine aI (by decide) ?_;refine gO Tryz.func5 ?_;refine aM (by decide) ?_;refine gO Tryz.func5 ?_;refine aI (by decide) ?_;refine gO Tryz.func5 ?_;refine aa.zj ?_;refine aa.run aj Tryz.func5 2000 ?_;(conv=>whnf);refine aI (by decide) ?_;refine gO Tryz.func5 ?_;have sH:z≠[46]:=fun e=>dT (by rw [e]; exact DA H);refine aI (by simpa using sH) ?_;refine gO Tryz.func5 ?_;refine ba ?_;refine gO Tryz.func5 ?_;by_cases hc:0≤fh w.aq [46]
  ·obtain ⟨k,p,q3,q4⟩:=A9 hc;have hp:=List.mem_of_getElem? q4.at_;obtain ⟨a1,a2⟩:=AO (q:=⟨s,1⟩) (H p hp) hq;have d5:=Az p.ay ⟨s,1⟩ (hf.aq p hp) hs;rw [a1,a2] at d5;rw [q3] at d4;have hcut:=A' k p q3 q4;refine ar (d4) ?_;refine gO Tryz.func5 ?_;refine aI (decide_eq_false (by omega)) ?_;refine gO Tryz.func5 ?_;refine aF (e:=p.enc) (a7 q4.at_) rfl ?_;refine gO Tryz.func5 ?_;refine ar (d5) ?_;refine gO Tryz.func5 ?_;refine bq ?_;refine gO Tryz.func5 ?_;refine aM (by decide) ?_;refine gO Tryz.func5 ?_;by_cases g4:(bO p.ay ⟨s,1⟩).kind=4
   ·refine aI (by simpa using g4) ?_;refine gO Tryz.func5 ?_;by_cases g5:(bO p.ay ⟨s,1⟩).cut=z
    ·have:=A' k p q3 q4 g4 g5;rw [q1] at this;cases this
    ·refine aM (by simpa using g5) ?_;refine gO Tryz.func5 ?_
     with_reducible rfl
   ·refine aM (by simpa using g4) ?_;refine gO Tryz.func5 ?_;refine bq ?_;refine gO Tryz.func5 ?_
    with_reducible rfl
  ·have nB:fh w.aq [46] = -1:=by have:=(rI (l:=w.aq) (ab:=[46]) (n:=w.aq.length)).1; unfold fh at hc ⊢; omega
   rw [nB] at d4;refine ar (d4) ?_;refine gO Tryz.func5 ?_;refine aM (by decide) ?_;refine gO Tryz.func5 ?_
   with_reducible rfl
theorem abI (w:ca) (s z:Text) (g0:w.Good) (g1:s.length≤maxLen) (g2:z.length≤maxLen):aA E 5 [w.enc,.str s,.str z] (· = .bool true):=abG w s z g0 g1 g2
end Go.Proofs.YtcmnpelmmekdkaaGreatDoor.P
