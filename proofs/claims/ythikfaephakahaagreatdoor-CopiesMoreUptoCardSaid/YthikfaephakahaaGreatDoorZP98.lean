/- Contracts by the engine: the reference of package copies: which versions are right, and the newest one. Conditions: lengths that Go allows. -/
import Derived.Test.YthikfaephakahaaGreatDoorZP95
set_option linter.unusedVariables false
set_option linter.unusedSimpArgs false
namespace Go.Proofs.YthikfaephakahaaGreatDoor.P
open Go Go.Eng
set_option maxRecDepth 100000
set_option maxHeartbeats 4000000
structure RightTo (l:List Version) (fin:Int) (i:Nat):Prop where
 ok:∀ (k:Nat) (v:Version),k<i→l[k]? = some v→verOK (apexV l) fin v=true
 rel:∀ (k:Nat) (x y:Version),k+1<i→l[k]? = some x→l[k+1]? = some y→relV x y=true
 dup:∀ (k m:Nat) (x y:Version),k<m→m<i→l[k]? = some x→l[m]? = some y→x.zone≠y.zone
theorem RightTo.zero {l:List Version} {fin:Int}:RightTo l fin 0:=⟨fun k v h=>by omega,fun k x y h=>by omega,fun k m x y h1 h2=>by omega⟩
theorem RightTo.next {l:List Version} {fin:Int} {i:Nat} {v:Version} (h:RightTo l fin i) (hv:l[i]? = some v) (h1:verOK (apexV l) fin v=true) (h2:∀ x,0<i→l[i - 1]? = some x→relV x v=true) (h3:∀ k x,k<i→l[k]? = some x→x.zone≠v.zone):RightTo l fin (i+1):=by
 refine ⟨fun k w hk hw=>?_,fun k x y hk hx hy=>?_,fun k m x y hkm hm hx hy=>?_⟩
 ·rcases Nat.lt_or_ge k i with h5 | h5
  ·exact h.ok k w h5 hw
  ·obtain rfl:k=i:=by omega
   rw [hv] at hw; cases hw; exact h1
 ·rcases Nat.lt_or_ge (k+1) i with h5 | h5
  ·exact h.rel k x y h5 hx hy
  ·obtain rfl:i=k+1:=by omega
   rw [hv] at hy; cases hy; exact h2 x (by omega) hx
 ·rcases Nat.lt_or_ge m i with h5 | h5
  ·exact h.dup k m x y hkm h5 hx hy
  ·obtain rfl:m=i:=by omega
   rw [hv] at hy; cases hy; exact h3 k x hkm hx
theorem RightTo.all {l:List Version} {fin:Int} (h:RightTo l fin l.length) (h1:1≤l.length) (h2:l.length≤400):rightB l fin=true:=by
 refine right_iff.2 ⟨h1,h2,fun v hv=>?_,rels_iff.2 fun i x y hx hy=>h.rel i x y (List.getElem?_eq_some_iff.1 hy).1 hx hy,?_⟩
 ·obtain ⟨k,hk⟩:=List.getElem?_of_mem hv;exact h.ok k v (List.getElem?_eq_some_iff.1 hk).1 hk
 ·rw [List.nodup_iff_pairwise_ne,List.pairwise_iff_getElem];intro i j hi hj hij;simp only [List.getElem_map];exact h.dup i j _ _ hij (by simpa using hj) (by simp) (by simp)
theorem right_no_ok {l:List Version} {fin:Int} {k:Nat} {v:Version} (hv:l[k]? = some v) (h:verOK (apexV l) fin v=false):rightB l fin=false:=by
 rw [Bool.eq_false_iff];intro e;have:=(right_iff.1 e).2.2.1 v (List.mem_of_getElem? hv);rw [h] at this; cases this
theorem right_no_rel {l:List Version} {fin:Int} {k:Nat} {x y:Version} (hx:l[k]? = some x) (hy:l[k+1]? = some y) (h:relV x y=false):rightB l fin=false:=by
 rw [Bool.eq_false_iff];intro e;have:=rels_iff.1 (right_iff.1 e).2.2.2.1 k x y hx hy;rw [h] at this; cases this
theorem right_no_dup {l:List Version} {fin:Int} {k m:Nat} {x y:Version} (hkm:k<m) (hx:l[k]? = some x) (hy:l[m]? = some y) (h:x.zone=y.zone):rightB l fin=false:=by
 rw [Bool.eq_false_iff];intro e;have h5:=(right_iff.1 e).2.2.2.2;rw [List.nodup_iff_pairwise_ne,List.pairwise_iff_getElem] at h5;obtain ⟨p1,e1⟩:=List.getElem?_eq_some_iff.1 hx;obtain ⟨p2,e2⟩:=List.getElem?_eq_some_iff.1 hy;have:=h5 k m (by simpa using p1) (by simpa using p2) hkm;simp only [List.getElem_map,e1,e2] at this;exact this h
theorem apexV_at {l:List Version} {v:Version} (h:l[0]? = some v):apexV l=v.zone.apex:=by
 cases l with
 |nil=>simp at h
 |cons a l=>simp at h; subst h; rfl
structure VersFit (l:List Version):Prop where
 len:l.length≤1000000
 fits:∀ v∈l,v.zone.Fits
 lens:∀ v∈l,v.zone.Lens
theorem rright_p (l:List Version) (fin:Int) (hf:VersFit l):PCalls E 55 [.sl (l.map Version.enc),.int .i64 fin] (· = .bool (endB fin&&rightB l fin)):=by
 have hlen:=hf.len;have c1:=rend_p fin;refine eP Tryz.func55 ?_
 with_reducible refine callP_eq (c1) ?_
 refine gO Tryz.func55 ?_;cases he:endB fin
 ·repeat' (first | with_reducible refine cY ?_ | with_reducible refine cN ?_ | with_reducible refine caseB_split (fun _=>?_) (fun _=>?_) | refine gA Tryz.func55 ?_ | refine gB ?_ | refine gC ?_ | with_reducible rfl)
  all_goals rfl
 rw [Bool.true_and];refine caseB_false ?_;refine gO Tryz.func55 ?_;by_cases h1:l.length<1
 ·have e:rightB l fin=false:=by
   rw [Bool.eq_false_iff]; intro e; have:=(right_iff.1 e).1; omega
  rw [e];refine caseB_yes (by simp only [List.length_map,decide_eq_true_eq]; omega) ?_;repeat' (first | with_reducible refine cY ?_ | with_reducible refine cN ?_ | with_reducible refine caseB_split (fun _=>?_) (fun _=>?_) | refine gA Tryz.func55 ?_ | refine gB ?_ | refine gC ?_ | with_reducible rfl)
 refine caseB_no (by simp only [List.length_map,decide_eq_false_iff_not]; omega) ?_;refine gO Tryz.func55 ?_;by_cases h2:400<l.length
 ·have e:rightB l fin=false:=by
   rw [Bool.eq_false_iff]; intro e; have:=(right_iff.1 e).2.1; omega
  rw [e];refine caseB_yes (by simp only [List.length_map,decide_eq_true_eq]; omega) ?_;repeat' (first | with_reducible refine cY ?_ | with_reducible refine cN ?_ | with_reducible refine caseB_split (fun _=>?_) (fun _=>?_) | refine gA Tryz.func55 ?_ | refine gB ?_ | refine gC ?_ | with_reducible rfl)
 refine caseB_no (by simp only [List.length_map,decide_eq_false_iff_not]; omega) ?_;refine gO Tryz.func55 ?_;obtain ⟨v0,h0⟩:=some_of_lt (l:=l) (k:=0) (by omega);have ha:=apexV_at h0;refine AWL.loop (κ:=Nat) (rg 4 5++rg 22 110) (fun k=>[(5,.d (.int .i64 k))]) (fun _=>[]) (fun k=>k≤l.length∧RightTo l fin k) (fun k=>l.length - k) 0 ⟨Nat.zero_le _,.zero⟩ ?_ ?_
 ·(conv=>whnf);repeat (first | exact trivial | (refine sI ?_; conv=>whnf))
 rintro i ⟨hi,hR⟩ IH;refine AWL.head E_ok Tryz.func55 2000 ?_;(conv=>whnf);refine caseB_split (fun h5=>?_) (fun h5=>?_)
 ·have hlt:i<l.length:=by simpa using h5
  obtain ⟨x,hx⟩:=some_of_lt hlt;have hxf:=hf.fits x (List.mem_of_getElem? hx);have c2:=rzone_p x.zone hxf;refine gO Tryz.func55 ?_;refine AWL.draw E_ok E_mixed 38 2000 (by kernel_rfl) ?_;(conv=>whnf);repeat' (first | with_reducible refine elemP_at (at_map hx) rfl ?_ | with_reducible refine elemP_at (at_zero h0) rfl ?_ | with_reducible refine callP_eq (c2) ?_ | with_reducible refine callP1_eq (c2) ?_ | with_reducible refine cY ?_ | with_reducible refine cN ?_ | with_reducible refine caseB_split (fun _=>?_) (fun _=>?_) | refine gA Tryz.func55 ?_ | refine gB ?_ | refine gC ?_ | with_reducible rfl)
  all_goals try (have hno:verOK (apexV l) fin x=false:=by (simp_all [verOK] <;> omega))
  all_goals try (rw [right_no_ok hx hno]; done)
  rename_i h6 h7 h8 h9;have hok:verOK (apexV l) fin x=true:=by (simp_all [verOK] <;> omega)
  have zone_of:∀ v:Version,verOK (apexV l) fin v=true→zoneR v.zone=true:=fun v hv=>by
   simp only [verOK,Bool.and_eq_true] at hv; exact hv.1.2
  have hxz:=zone_of x hok;clear h6 h7 h8 h9 c1 c2;have c4:=rserialOf_p x.zone hxz;refine gO Tryz.func55 ?_;refine AWL.loop (κ:=Nat) ([4,6]++rg 66 31) (fun k=>[(6,.d (.int .i64 k))]) (fun _=>[]) (fun k=>k≤i∧∀ j y,j<k→l[j]? = some y→y.zone≠x.zone) (fun k=>i - k) 0 ⟨Nat.zero_le _,fun j y h=>by omega⟩ ?_ ?_
  ·(conv=>whnf);repeat (first | exact trivial | (refine sI ?_; conv=>whnf))
  rintro k ⟨hk,hno⟩ IH2;refine AWL.head E_ok Tryz.func55 2000 ?_;(conv=>whnf);refine caseB_split (fun h6=>?_) (fun h6=>?_)
  ·have hlt2:k<i:=by simpa using h6
   obtain ⟨y,hy⟩:=some_of_lt (l:=l) (k:=k) (by omega);have hyz:=zone_of y (hR.ok k y hlt2 hy);have c3:=rserialOf_p y.zone hyz;have c5:=rsameZone_p y.zone x.zone (hf.lens y (List.mem_of_getElem? hy));have next:y.zone≠x.zone→∀ j w,j<k+1→l[j]? = some w→w.zone≠x.zone:=fun hne j w hj hw=>by
    rcases Nat.lt_or_ge j k with h | h
    ·exact hno j w h hw
    ·obtain rfl:j=k:=by omega
     rw [hy] at hw; cases hw; exact hne
   refine gO Tryz.func55 ?_;refine AWL.draw E_ok E_mixed 26 2000 (by kernel_rfl) ?_;(conv=>whnf);refine elemP_at (e:=y.enc) (at_map hy) rfl ?_;refine gD ?_;refine callP1_eq (c3) ?_;refine gD ?_;refine elemP_at (e:=x.enc) (at_map hx) rfl ?_;refine gD ?_;refine callP1_eq (c4) ?_;refine gD ?_;refine caseB_split (fun h7=>?_) (fun h7=>?_)
   ·refine gD ?_;refine elemP_at (e:=y.enc) (at_map hy) rfl ?_;refine gD ?_;refine elemP_at (e:=x.enc) (at_map hx) rfl ?_;refine gD ?_;by_cases hz:y.zone=x.zone
    ·rw [decide_eq_true hz] at c5;refine callP1_eq (c5) ?_;refine gD ?_;refine gS ?_;refine gO Tryz.func55 ?_;refine caseB_true ?_;refine gO Tryz.func55 ?_;rw [right_no_dup hlt2 hy hx hz]
    ·rw [decide_eq_false hz] at c5;refine callP1_eq (c5) ?_;refine gD ?_;refine gS ?_;refine gO Tryz.func55 ?_;refine caseB_false ?_;refine gO Tryz.func55 ?_;refine AWL.back (IH2 (k+1) ⟨by omega,next hz⟩ (by omega)) ?_;(conv=>whnf);repeat (first | exact trivial | (refine sI ?_; conv=>whnf))
   ·have hz:y.zone≠x.zone:=fun e=>by rw [e] at h7; simp at h7
    refine gD ?_;refine gS ?_;refine gO Tryz.func55 ?_;refine caseB_false ?_;refine gO Tryz.func55 ?_;refine AWL.back (IH2 (k+1) ⟨by omega,next hz⟩ (by omega)) ?_;(conv=>whnf);repeat (first | exact trivial | (refine sI ?_; conv=>whnf))
  ·have hge:k=i:=by simp at h6; omega
   subst hge;clear IH2;refine gO Tryz.func55 ?_;refine caseB_split (fun h7=>?_) (fun h7=>?_)
   ·have hpos:0<k:=by simpa using h7
    obtain ⟨w,hw⟩:=some_of_lt (l:=l) (k:=k - 1) (by omega);have hwz:=zone_of w (hR.ok (k - 1) w (by omega) hw);have c3:=rserialOf_p w.zone hwz;have c6:=rless11_p (serZ w.zone) (serZ x.zone);have hwk:l[k - 1+1]? = some x:=by rw [show k - 1+1=k by omega]; exact hx
    refine gO Tryz.func55 ?_;refine AWL.draw E_ok E_mixed 19 2000 (by kernel_rfl) ?_;(conv=>whnf);refine elemP_at (e:=w.enc) (at_prev hw hpos (by omega)) rfl ?_;refine gD ?_;refine callP1_eq (c3) ?_;refine gD ?_;refine elemP_at (e:=x.enc) (at_map hx) rfl ?_;refine gD ?_;refine callP1_eq (c4) ?_;refine gD ?_;refine callP1_eq (c6) ?_;refine gD ?_;refine gS ?_;refine gO Tryz.func55 ?_;refine AWL.draw E_ok E_mixed 16 2000 (by kernel_rfl) ?_;(conv=>whnf);refine elemP_at (e:=x.enc) (at_map hx) rfl ?_;refine gD ?_;refine elemP_at (e:=w.enc) (at_prev hw hpos (by omega)) rfl ?_;refine gD ?_;refine caseB_split (fun h8=>?_) (fun h8=>?_)
    ·have hrel:relV w x=false:=by simp [relV]; intro h; simp at h8; omega
     refine gD ?_;refine gS ?_;refine gO Tryz.func55 ?_;refine caseB_true ?_;refine gO Tryz.func55 ?_;rw [right_no_rel hw hwk hrel]
    ·refine gD ?_;refine gS ?_;refine gO Tryz.func55 ?_;cases hles:lessB (serZ w.zone) (serZ x.zone)
     ·have hrel:relV w x=false:=by simp [relV,hles]
      refine caseB_yes (by simp) ?_;refine gO Tryz.func55 ?_;rw [right_no_rel hw hwk hrel]
     ·have hrel:relV w x=true:=by simp [relV,hles]; simp at h8; omega
      refine caseB_no (by simp) ?_;refine gO Tryz.func55 ?_;refine AWL.back (IH (k+1) ⟨by omega,hR.next hx hok (fun x2 _ hx2=>by rw [hw] at hx2; cases hx2; exact hrel) (fun j y hj hy=>hno j y hj hy)⟩ (by omega)) ?_;(conv=>whnf);repeat (first | exact trivial | (refine sI ?_; conv=>whnf))
   ·have hz0:k=0:=by simp at h7; omega
    refine gO Tryz.func55 ?_;refine AWL.back (IH (k+1) ⟨by omega,hR.next hx hok (fun x2 h _=>by omega) (fun j y hj hy=>hno j y hj hy)⟩ (by omega)) ?_;(conv=>whnf);repeat (first | exact trivial | (refine sI ?_; conv=>whnf))
 ·have hge:i=l.length:=by simp at h5; omega
  subst hge;refine gO Tryz.func55 ?_;rw [hR.all (by omega) (by omega)]
theorem rnewest_p (l:List Version) (t:Int) (hs:VerS l) (hl:l.length≤1000000):PCalls E 24 [.sl (l.map Version.enc),.int .i64 t] (· = .int .i64 ((newN l t:Int) - 1)):=by
 have hle:=newN_le (l:=l) (t:=t);refine eP Tryz.func24 ?_;refine AWL.loop (κ:=Nat) (rg 5 16) (fun k=>[(6,.d (.int .i64 k)),(5,.d (.int .i64 ((min k (newN l t):Nat) - 1:Int)))]) (fun _=>[]) (fun k=>k≤l.length) (fun k=>l.length - k) 0 (Nat.zero_le _) ?_ ?_
 ·(conv=>whnf);repeat (first | exact trivial | (refine sI ?_; conv=>whnf))
 intro k hk IH;refine AWL.head E_ok Tryz.func24 2000 ?_;(conv=>whnf);refine caseB_split (fun h5=>?_) (fun h5=>?_)
 ·have hlt:k<l.length:=by simpa using h5
  obtain ⟨x,hx⟩:=some_of_lt hlt;have hiff:=newN_iff hs hx (t:=t);refine gO Tryz.func24 ?_;refine elemP_at (e:=x.enc) (at_map hx) rfl ?_;refine gO Tryz.func24 ?_;refine caseB_split (fun h6=>?_) (fun h6=>?_)
  ·have:=hiff.1 (by simpa using h6);refine gO Tryz.func24 ?_;refine AWL.back (IH (k+1) (by omega) (by omega)) ?_;(conv=>whnf);repeat (first | exact trivial | (refine sI ?_; conv=>whnf))
  ·have:¬ k<newN l t:=fun e=>by have:=hiff.2 e; simp at h6; omega
   refine gO Tryz.func24 ?_;refine AWL.back (IH (k+1) (by omega) (by omega)) ?_;(conv=>whnf);repeat (first | exact trivial | (refine sI ?_; conv=>whnf))
 ·have hge:k=l.length:=by simp at h5; omega
  subst hge;refine gO Tryz.func24 ?_;rw [Nat.min_eq_right hle]
end Go.Proofs.YthikfaephakahaaGreatDoor.P
