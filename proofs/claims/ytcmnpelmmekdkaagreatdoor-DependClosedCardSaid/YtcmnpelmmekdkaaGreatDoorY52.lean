/- Several texts of mine, one behind the other. Conditions: as each says. -/
import Derived.Test.YtcmnpelmmekdkaaGreatDoorY49
set_option linter.unusedVariables false
set_option linter.unusedSimpArgs false
namespace Go.Proofs.YtcmnpelmmekdkaaGreatDoor.P
open Go Go.ax
set_option maxRecDepth 100000
set_option maxHeartbeats 4000000
theorem abJ {l:List aB} {s:Text} (H:dW l):∃ r,cB l s=[46]::r:=by
 have hm:=DA (s:=s) H;have hs:=Ir (l:=l) (s:=s);have hv:=Is (l:=l) (s:=s) H;generalize cB l s=Z at *;cases Z with
 |nil=>cases hm
 |cons z r =>
  rcases List.mem_cons.1 hm with e | e
  ·exact ⟨r,by rw [e]⟩
  ·exfalso;have h1:=(List.pairwise_cons.1 hs).1 _ e;simp only [jc,decide_eq_true_eq] at h1;have h2:=AP (hv z (List.mem_cons_self ..));have h3:=xj h2;have h4:=uR z [46];omega
theorem A9 {l:List aB} {ab:Text} (h:0≤fh l ab):∃ k p,fh l ab=(k:Nat)∧xI l ab l.length k p:=by
 rcases vj (l:=l) (ab:=ab) l.length with ⟨h1,-⟩ | h2
 ·unfold fh at h; omega
 ·exact h2
theorem abK {l:List aB} {s z:Text} {Z:aU} (H:dW l) (hs:Nm.valid s=true) (hz:z∈cB l s) (hZ:dz l z=some Z) {x:Signed} {d:Datum} (hx:x∈Z.af) (hn:x.set.name=z) (ht:x.set.type=2) (hd:d∈x.set.data):∀ y∈cB l d.text,y∈cB l s:=fun y hy=>by
 have B:=lB H s;obtain ⟨n,iu,xV⟩:=B.s6.1 (lC.1 hz);have QV:Nm.valid n=true:=by
  obtain ⟨v,hv,rfl⟩:=List.mem_map.1 iu;exact YR H hs v hv
 have h1:=Pm (Ij H) (AP QV) (by have:=DG QV; omega) xV hZ ⟨⟨z,2⟩,d.text⟩ (AD.2 ⟨rfl,x,hx,hn,ht,d,hd,rfl⟩);have h2:=B.closed n iu _ (vp.2 h1);exact lC.2 (B.YE (lB H d.text) h2 y (lC.1 hy))
theorem abL {Z:List Text} (hs:Z.Pairwise fun a b=>jc a b=true) {k:Nat} {x y:Text} (hk:k≠0) (hx:Z[k - 1]? = some x) (hy:Z[k]? = some y):bA x y<0:=by
 have hl:=aZ hy;have h8:=List.pairwise_iff_getElem.1 hs (k - 1) k (by omega) hl (by omega);have e1:=(List.getElem?_eq_some_iff.1 hx).2;have e2:=(List.getElem?_eq_some_iff.1 hy).2;rw [e1,e2] at h8
 simpa [jc] using h8
theorem abM (w:ca) (s:Text) (n:Int) (hg:w.Good) (hs:s.length≤maxLen) (hu:U8 n):aA E 4 [w.enc,.str s,.int .u8 n] (· = .bool true):=by
 obtain ⟨I5,ma⟩:=hu;have c0:=DX;have c1:=DY w s hg hs;cases h0:((p7 w&&dn w)&&Nm.valid s)
 ·rw [h0] at c1;refine eP Tryz.func4 ?_;refine ar (c0) ?_;refine gO Tryz.func4 ?_;refine ar (c1) ?_;refine gO Tryz.func4 ?_;repeat' (first | with_reducible refine cY ?_ | with_reducible refine cN ?_ | with_reducible refine aw (fun _=>?_) (fun _=>?_) | refine gA Tryz.func4 ?_ | refine gB ?_ | refine gC ?_ | with_reducible rfl)
 rw [h0] at c1;have oY:=h0;simp only [Bool.and_eq_true] at oY;obtain ⟨⟨h1,h2⟩,h3⟩:=oY;obtain ⟨hf,hk,hh,-⟩:=A7 hg h1;have hv:(dn w&&Nm.valid s)=true:=by rw [h2,h3]; rfl
 obtain ⟨H,hl⟩:=mj h2;have d1:=xX w s hf hs;have hZ:ke w s=cB w.aq s:=if_pos hv;have hn:kL w s=0:=if_pos hv;have mi:=DZ (s:=s) hk;rw [hn,hZ] at d1;rw [hZ] at mi;have pb:=Is (l:=w.aq) (s:=s) H;have Jf:=Ir (l:=w.aq) (s:=s);have abN:=fun z Z hz hZ x d hx hn ht hd=>abK (l:=w.aq) (s:=s) (z:=z) (Z:=Z) H h3 hz hZ (x:=x) (d:=d) hx hn ht hd;obtain ⟨r,hr⟩:=abJ (s:=s) H;generalize cB w.aq s=zs at *;have a0:nK (zs.map DV.str) 0 (.str [46]):=⟨by decide,by rw [hr]; rfl⟩;have abO:zs.length≠0:=by rw [hr]; simp
 refine eP Tryz.func4 ?_;refine ar (c0) ?_;refine gO Tryz.func4 ?_;refine ar (c1) ?_;refine gO Tryz.func4 ?_;refine ba ?_;refine gO Tryz.func4 ?_;refine ar (d1) ?_;refine gO Tryz.func4 ?_;refine aI (by decide) ?_;refine gO Tryz.func4 ?_;refine aI (by simpa using abO) ?_;refine gO Tryz.func4 ?_;refine aF (e := .str [46]) a0 rfl ?_;refine gO Tryz.func4 ?_;refine aI (by decide) ?_;refine gO Tryz.func4 ?_;refine aa.loop (κ:=Nat) ([6,10]++rg 47 19) (fun k=>[(47,.d (.int .i64 k))]) (fun _=>[]) (fun k=>k≤zs.length) (fun k=>zs.length - k) 0 (Nat.zero_le _) ?_ ?_
 ·exact sZ
 intro k lj IH;refine aa.head aj Tryz.func4 2000 ?_;(conv=>whnf);refine aw (fun h5=>?_) (fun h5=>?_)
 ·have ai:k<zs.length:=by simpa using h5
  obtain ⟨y,hy⟩:=aY ai;have hyl:=fF (pb y (List.mem_of_getElem? hy));refine gO Tryz.func4 ?_;by_cases df:k=0
  ·subst df;refine aa.draw aj bW 15 2000 (by kernel_rfl) ?_;(conv=>whnf);refine aI (by decide) ?_;refine gD ?_;refine gS ?_;refine gO Tryz.func4 ?_;refine aI (by decide) ?_;refine gO Tryz.func4 ?_;refine aa.back (IH 1 (by omega) (by omega)) ?_;exact sZ
  ·obtain ⟨x,hx⟩:=aY (l:=zs) (k:=k - 1) (by omega);have gK:=fF (pb x (List.mem_of_getElem? hx));have Jg:IntKind.i64.wrap ((k:Int) - 1)=((k - 1:Nat):Int):=by rw [wrap64 (by omega) (by omega)]; omega
   have c3:=GL x y (by omega) (by omega);have gX:=abL Jf df hx hy;refine aa.draw aj bW 15 2000 (by kernel_rfl) ?_;(conv=>whnf);refine aM (decide_eq_true (by omega)) ?_;refine gD ?_;refine aF (e := .str x) (by rw [Jg]; exact a7 hx) rfl ?_;refine gD ?_;refine aF (e := .str y) (a7 hy) rfl ?_;refine gD ?_;refine bg (c3) ?_;refine gD ?_;refine gS ?_;refine gO Tryz.func4 ?_;refine aI (decide_eq_false (by omega)) ?_;refine gO Tryz.func4 ?_;refine aa.back (IH (k+1) (by omega) (by omega)) ?_;exact sZ
 have sJ:(zs.map DV.str).length=zs.length:=by simp
 obtain ⟨j,hj,kR⟩:∃ j:Nat,BE .rem .i64 (IntKind.i64.wrap n) ((zs.map DV.str).length:Int)=(j:Int)∧j<zs.length:=by
  refine ⟨n.toNat % zs.length,?_,Nat.mod_lt _ (by omega)⟩;rw [wrap64 (by omega) (by omega),sJ];show n.tmod _=_;rw [Int.tmod_eq_emod_of_nonneg I5,Int.natCast_emod,Int.toNat_of_nonneg I5]
 obtain ⟨z,hz⟩:=aY kR;have pZ:=List.mem_of_getElem? hz;have d4:=PD w.aq z H (by omega);refine gO Tryz.func4 ?_;refine bQ (by rw [sJ]; omega) ?_;refine gO Tryz.func4 ?_;refine aF (e := .str z) (by rw [hj]; exact a7 hz) rfl ?_;refine gO Tryz.func4 ?_;by_cases hc:0≤fh w.aq z
 case neg =>
  have nB:fh w.aq z = -1:=by have:=(rI (l:=w.aq) (ab:=z) (n:=w.aq.length)).1; unfold fh at hc ⊢; omega
  rw [nB] at d4;refine ar (d4) ?_;refine gO Tryz.func4 ?_;refine aM (by decide) ?_;refine gO Tryz.func4 ?_
  with_reducible rfl
 obtain ⟨q,p,q3,q4⟩:=A9 hc;have hp:=List.mem_of_getElem? q4.at_;have V:=lv (H p hp);have abP:dz w.aq z=some p.ay:=AN q3 q4.at_;have d5:=CO p.ay ⟨z,2⟩ (by have:=V.len; omega);have bC:0≤aO p.ay.af ⟨z,2⟩:=by have h5:=IF (H p hp); rwa [q4.home] at h5
 obtain ⟨x,hx,hxq⟩:=rA bC;have QW:=uZ hxq;have hxn:x.set.name=z:=(congrArg aS.name QW).symm;have QX:x.set.type=2:=(congrArg aS.type QW).symm;have lh:=List.mem_of_getElem? hx;have hx8:=ta V x lh;have dg:=Io (V.af x lh) (.inl QX);have eh:=fun d hd=>abN z p.ay pZ abP x d lh hxn QX hd;rw [q3] at d4;generalize aO p.ay.af ⟨z,2⟩=own at *;refine ar (d4) ?_;refine gO Tryz.func4 ?_;refine aI (decide_eq_false (by omega)) ?_;refine gO Tryz.func4 ?_;refine aF (e:=p.enc) (a7 q4.at_) rfl ?_;refine gO Tryz.func4 ?_;refine ar (d5) ?_;refine gO Tryz.func4 ?_;refine aI (decide_eq_false (by omega)) ?_;refine gO Tryz.func4 ?_;refine aF (e:=p.enc) (a7 q4.at_) rfl ?_;refine gO Tryz.func4 ?_;refine aF (e:=x.enc) ⟨bC,by rw [List.getElem?_map,hx]; rfl⟩ rfl ?_;refine gO Tryz.func4 ?_;refine aa.loop (κ:=Nat) ([6,7,15,16,17,19]++rg 105 27) (fun k=>[(105,.d (.int .i64 k)),(7,.d (.bool true))]) (fun _=>[]) (fun k=>k≤x.set.data.length) (fun k=>x.set.data.length - k) 0 (Nat.zero_le _) ?_ ?_
 ·exact sZ
 intro k lj IH;refine aa.head aj Tryz.func4 2000 ?_;(conv=>whnf);refine aw (fun h5=>?_) (fun h5=>?_)
 ·have ai:k<x.set.data.length:=by simpa using h5
  obtain ⟨d,hd⟩:=aY ai;have QY:=List.mem_of_getElem? hd;have QZ:=dg d QY;have acH:=fF QZ;have eZ:(dn w&&Nm.valid d.text)=true:=by rw [h2,QZ]; rfl
  have d6:=xX w d.text hf (Nat.le_trans (show d.text.length≤100 by omega) (by decide));have e1:ke w d.text=cB w.aq d.text:=if_pos eZ;have e2:kL w d.text=0:=if_pos eZ;rw [e1,e2] at d6;have CT:=eh d QY;have hYl:=QQ (s:=d.text) H hk;generalize cB w.aq d.text=Y at d6 CT hYl;refine gO Tryz.func4 ?_;refine aF (e:=d.enc) (a7 hd) rfl ?_;refine gO Tryz.func4 ?_;refine ar (d6) ?_;refine gO Tryz.func4 ?_;refine aI (by decide) ?_;refine gO Tryz.func4 ?_;refine aa.loop (κ:=Nat) ([7,19]++rg 120 11) (fun k=>[(120,.d (.int .i64 k)),(7,.d (.bool true))]) (fun _=>[]) (fun k=>k≤Y.length) (fun k=>Y.length - k) 0 (Nat.zero_le _) ?_ ?_
  ·exact sZ
  intro i pB II;refine aa.head aj Tryz.func4 2000 ?_;(conv=>whnf);refine aw (fun h6=>?_) (fun h6=>?_)
  ·have gX:i<Y.length:=by simpa using h6
   obtain ⟨y,hy⟩:=aY gX;have d7:=AR zs y (by omega);rw [decide_eq_true (CT y (List.mem_of_getElem? hy))] at d7;refine gO Tryz.func4 ?_;refine aF (e := .str y) (a7 hy) rfl ?_;refine gO Tryz.func4 ?_;refine bq ?_;refine gO Tryz.func4 ?_;refine ar (d7) ?_;refine gO Tryz.func4 ?_;refine aa.back (II (i+1) (by omega) (by omega)) ?_;exact sZ
  ·refine gO Tryz.func4 ?_;refine aa.back (IH (k+1) (by omega) (by omega)) ?_;exact sZ
 ·refine gO Tryz.func4 ?_
  with_reducible rfl
theorem abT (w:ca) (s:Text) (n:Int) (g0:w.Good) (g1:s.length≤maxLen) (g2:U8 n):aA E 4 [w.enc,.str s,.int .u8 n] (· = .bool true):=abM w s n g0 g1 g2
end Go.Proofs.YtcmnpelmmekdkaaGreatDoor.P
