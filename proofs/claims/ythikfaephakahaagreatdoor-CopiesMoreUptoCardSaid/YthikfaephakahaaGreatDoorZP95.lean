/- Contracts by the engine: packages delta, zone (Serial) and copies: small functions. Conditions: lengths that Go allows. -/
import Derived.Test.YthikfaephakahaaGreatDoorZP94
import Derived.Test.YthikfaephakahaaGreatDoorZN8
set_option linter.unusedVariables false
set_option linter.unusedSimpArgs false
namespace Go.Proofs.YthikfaephakahaaGreatDoor.P
open Go Go.Eng
set_option maxRecDepth 100000
set_option maxHeartbeats 4000000
theorem vserial_p (n:Int):PCalls E 168 [.int .i64 n] (· = .bool (serOK n)):=by
 refine eP Tryz.func168 ?_;repeat' (first | with_reducible refine cY ?_ | with_reducible refine cN ?_ | with_reducible refine caseB_split (fun _=>?_) (fun _=>?_) | refine gA Tryz.func168 ?_ | refine gB ?_ | refine gC ?_ | with_reducible rfl)
 all_goals (simp_all [serOK] <;> omega)
theorem ahead_wrap {a b:Int} (ha:serOK a=true) (hb:serOK b=true):divI .rem .i64 (IntKind.i64.wrap (IntKind.i64.wrap (b - a)+65536)) 65536=aheadI a b:=by
 simp only [serOK,Bool.and_eq_true,decide_eq_true_eq] at ha hb;rw [wrap64 (n:=b - a) (by omega) (by omega),wrap64 (by omega) (by omega)];rfl
theorem less_p (a b:Int) (ha:serOK a=true) (hb:serOK b=true):PCalls E 169 [.int .i64 a,.int .i64 b] (· = .bool (lessS a b)):=by
 have h:=ahead_wrap ha hb;have h':(IntKind.i64.wrap (IntKind.i64.wrap (b - a)+65536)).tmod (Int.ofNat (65535+1))=aheadI a b:=h;refine eP Tryz.func169 ?_;rw [h'];repeat' (first | with_reducible refine cY ?_ | with_reducible refine cN ?_ | with_reducible refine caseB_split (fun _=>?_) (fun _=>?_) | refine gA Tryz.func169 ?_ | refine gB ?_ | refine gC ?_ | with_reducible rfl)
 all_goals (simp_all [lessS] <;> omega)
theorem dless_p (a b:Int):PCalls E 105 [.int .i64 a,.int .i64 b] (· = .tup [.bool (lessB a b),.int .i64 (if serOK a&&serOK b then 0 else 1)]):=by
 have c1:=vserial_p a;have c2:=vserial_p b;cases ha:serOK a
 ·rw [ha] at c1;have e:lessB a b=false:=by simp [lessB,ha]
  rw [e];refine eP Tryz.func105 ?_
  with_reducible refine callP_eq (c1) ?_
  refine gO Tryz.func105 ?_;repeat' (first | with_reducible refine cY ?_ | with_reducible refine cN ?_ | with_reducible refine caseB_split (fun _=>?_) (fun _=>?_) | refine gA Tryz.func105 ?_ | refine gB ?_ | refine gC ?_ | with_reducible rfl)
  all_goals rfl
 cases hb:serOK b
 ·rw [ha] at c1;rw [hb] at c2;have e:lessB a b=false:=by simp [lessB,hb]
  rw [e];refine eP Tryz.func105 ?_
  with_reducible refine callP_eq (c1) ?_
  refine gO Tryz.func105 ?_;refine caseB_false ?_;refine gO Tryz.func105 ?_
  with_reducible refine callP_eq (c2) ?_
  refine gO Tryz.func105 ?_;repeat' (first | with_reducible refine cY ?_ | with_reducible refine cN ?_ | with_reducible refine caseB_split (fun _=>?_) (fun _=>?_) | refine gA Tryz.func105 ?_ | refine gB ?_ | refine gC ?_ | with_reducible rfl)
  all_goals rfl
 ·rw [ha] at c1;rw [hb] at c2;have e:lessB a b=lessS a b:=by simp [lessB,ha,hb]
  rw [e];refine eP Tryz.func105 ?_
  with_reducible refine callP_eq (c1) ?_
  refine gO Tryz.func105 ?_;refine caseB_false ?_;refine gO Tryz.func105 ?_
  with_reducible refine callP_eq (c2) ?_
  refine gO Tryz.func105 ?_;refine caseB_false ?_;refine gO Tryz.func105 ?_
  with_reducible refine callP_eq (less_p a b ha hb) ?_
  refine gO Tryz.func105 ?_;rfl
theorem rserial_p (n:Int):PCalls E 179 [.int .i64 n] (· = .bool (serOK n)):=by
 refine eP Tryz.func179 ?_;repeat' (first | with_reducible refine cY ?_ | with_reducible refine cN ?_ | with_reducible refine caseB_split (fun _=>?_) (fun _=>?_) | refine gA Tryz.func179 ?_ | refine gB ?_ | refine gC ?_ | with_reducible rfl)
 all_goals (simp_all [serOK] <;> omega)
theorem rbefore11_p (a b:Int) (ha:serOK a=true) (hb:serOK b=true):PCalls E 180 [.int .i64 a,.int .i64 b] (· = .bool (lessS a b)):=by
 have h:=ahead_wrap ha hb;have h':(IntKind.i64.wrap (IntKind.i64.wrap (b - a)+65536)).tmod (Int.ofNat (65535+1))=aheadI a b:=h;refine eP Tryz.func180 ?_;rw [h'];repeat' (first | with_reducible refine cY ?_ | with_reducible refine cN ?_ | with_reducible refine caseB_split (fun _=>?_) (fun _=>?_) | refine gA Tryz.func180 ?_ | refine gB ?_ | refine gC ?_ | with_reducible rfl)
 all_goals (simp_all [lessS] <;> omega)
theorem rless11_p (a b:Int):PCalls E 117 [.int .i64 a,.int .i64 b] (· = .tup [.bool (lessB a b),.int .i64 (if serOK a&&serOK b then 0 else 1)]):=by
 have c1:=rserial_p a;have c2:=rserial_p b;cases ha:serOK a
 ·rw [ha] at c1;have e:lessB a b=false:=by simp [lessB,ha]
  rw [e];refine eP Tryz.func117 ?_
  with_reducible refine callP_eq (c1) ?_
  refine gO Tryz.func117 ?_;repeat' (first | with_reducible refine cY ?_ | with_reducible refine cN ?_ | with_reducible refine caseB_split (fun _=>?_) (fun _=>?_) | refine gA Tryz.func117 ?_ | refine gB ?_ | refine gC ?_ | with_reducible rfl)
  all_goals rfl
 cases hb:serOK b
 ·rw [ha] at c1;rw [hb] at c2;have e:lessB a b=false:=by simp [lessB,hb]
  rw [e];refine eP Tryz.func117 ?_
  with_reducible refine callP_eq (c1) ?_
  refine gO Tryz.func117 ?_;refine caseB_false ?_;refine gO Tryz.func117 ?_
  with_reducible refine callP_eq (c2) ?_
  refine gO Tryz.func117 ?_;repeat' (first | with_reducible refine cY ?_ | with_reducible refine cN ?_ | with_reducible refine caseB_split (fun _=>?_) (fun _=>?_) | refine gA Tryz.func117 ?_ | refine gB ?_ | refine gC ?_ | with_reducible rfl)
  all_goals rfl
 ·rw [ha] at c1;rw [hb] at c2;have e:lessB a b=lessS a b:=by simp [lessB,ha,hb]
  rw [e];refine eP Tryz.func117 ?_
  with_reducible refine callP_eq (c1) ?_
  refine gO Tryz.func117 ?_;refine caseB_false ?_;refine gO Tryz.func117 ?_
  with_reducible refine callP_eq (c2) ?_
  refine gO Tryz.func117 ?_;refine caseB_false ?_;refine gO Tryz.func117 ?_
  with_reducible refine callP_eq (rbefore11_p a b ha hb) ?_
  refine gO Tryz.func117 ?_;rfl
theorem start_at {z:Zone} (h:zoneR z=true):∃ (k:Nat) (s:Signed) (d:Datum),atI z.sets ⟨z.apex,4⟩=k∧z.sets[k]? = some s∧atQ ⟨z.apex,4⟩ s=true∧s.set.data[0]? = some d∧serZ z=d.n:=by
 have h0:=h;simp only [zoneR,Bool.and_eq_true] at h;obtain ⟨h1,h2,h3,h4,h5⟩:=h;simp only [twoB,Bool.and_eq_true,Bool.not_eq_true',decide_eq_false_iff_not] at h2;have h6:=h2.1.1;cases hf:z.sets.findIdx? (atQ ⟨z.apex,4⟩) with
 |none=>simp [atI,hf] at h6
 |some k =>
  obtain ⟨hk,hq,_⟩:=List.findIdx?_eq_some_iff_getElem.1 hf;have hs:z.sets[k]? = some z.sets[k]:=List.getElem?_eq_getElem hk;obtain ⟨q1,q2,q3⟩:=oneB_sets h1;have hok:=q2 z.sets[k] (List.getElem_mem hk);simp only [ok1,Bool.and_eq_true] at hok;have hl:=setOK_lens hok.1;obtain ⟨d,hd⟩:=some_of_lt2 (l:=z.sets[k].set.data) (k:=0) (by omega);have e:atI z.sets ⟨z.apex,4⟩=k:=by simp [atI,hf]
  exact ⟨k,z.sets[k],d,e,hs,hq,hd,by simp [serZ,e,hs,hd]⟩
theorem serial_p (z:Zone) (hf:z.Fits) (h:zoneR z=true):PCalls E 104 [z.enc] (· = .tup [.int .i64 (serZ z),.int .i64 0]):=by
 have c1:=zvalid_p z hf;rw [h] at c1;obtain ⟨k,s,d,e1,e2,e3,e4,e5⟩:=start_at h;have hone:oneB z=true:=by simp only [zoneR,Bool.and_eq_true] at h; exact h.1
 obtain ⟨f1,f2,_⟩:=oneB_facts hone;obtain ⟨g1,_,g3⟩:=oneB_sets hone;have c2:=find_p z ⟨z.apex,4⟩ (by omega) f2 g3 f1;obtain ⟨za,zs⟩:=z;simp only at e1 e2 e3 c2;show PCalls E _ [DV.agg [.str za,.sl (zs.map Signed.enc)]] _;refine eP Tryz.func104 ?_;refine callP_eq (c1) ?_;refine gO Tryz.func104 ?_;refine caseB_false ?_;refine gO Tryz.func104 ?_;refine callP_any c2 ?_;rintro r ⟨i,_,rfl,hi⟩;obtain rfl:=hi k s e2 e3;refine gO Tryz.func104 ?_;refine elemP_at (e:=s.enc) (at_map e2) rfl ?_;refine gO Tryz.func104 ?_;refine elemP_at (e:=d.enc) (at_zero e4) rfl ?_;refine gO Tryz.func104 ?_;rw [e5]
theorem rserialOf_p (z:Zone) (h:zoneR z=true):PCalls E 84 [z.enc] (· = .int .i64 (serZ z)):=by
 obtain ⟨k,s,d,e1,e2,e3,e4,e5⟩:=start_at h;have hl:z.sets.length≤2147483648:=(zoneR_short h).sets;have c1:=rat_p z ⟨z.apex,4⟩ hl;rw [e1] at c1;obtain ⟨za,zs⟩:=z;show PCalls E _ [DV.agg [.str za,.sl (zs.map Signed.enc)]] _;refine eP Tryz.func84 ?_;refine AWL.draw E_ok E_mixed 14 2000 (by kernel_rfl) ?_;(conv=>whnf);refine callP1_eq (c1) ?_;refine gD ?_;refine elemP_at (e:=s.enc) (at_map e2) rfl ?_;refine gD ?_;refine elemP_at (e:=d.enc) (at_zero e4) rfl ?_;refine gD ?_;refine gS ?_;refine gO Tryz.func84 ?_;rw [e5]
theorem isEnd_p (n:Int):PCalls E 49 [.int .i64 n] (· = .bool (endB n)):=by
 refine eP Tryz.func49 ?_;repeat' (first | with_reducible refine cY ?_ | with_reducible refine cN ?_ | with_reducible refine caseB_split (fun _=>?_) (fun _=>?_) | refine gA Tryz.func49 ?_ | refine gB ?_ | refine gC ?_ | with_reducible rfl)
 all_goals (simp_all [endB] <;> omega)
theorem isHost_p (n:Int):PCalls E 51 [.int .i64 n] (· = .bool (hostN n)):=by
 refine eP Tryz.func51 ?_;repeat' (first | with_reducible refine cY ?_ | with_reducible refine cN ?_ | with_reducible refine caseB_split (fun _=>?_) (fun _=>?_) | refine gA Tryz.func51 ?_ | refine gB ?_ | refine gC ?_ | with_reducible rfl)
 all_goals (simp_all [hostN] <;> omega)
theorem rend_p (n:Int):PCalls E 115 [.int .i64 n] (· = .bool (endB n)):=by
 refine eP Tryz.func115 ?_;repeat' (first | with_reducible refine cY ?_ | with_reducible refine cN ?_ | with_reducible refine caseB_split (fun _=>?_) (fun _=>?_) | refine gA Tryz.func115 ?_ | refine gB ?_ | refine gC ?_ | with_reducible rfl)
 all_goals (simp_all [endB] <;> omega)
theorem rhost_p (n:Int):PCalls E 23 [.int .i64 n] (· = .bool (hostN n)):=by
 refine eP Tryz.func23 ?_;repeat' (first | with_reducible refine cY ?_ | with_reducible refine cN ?_ | with_reducible refine caseB_split (fun _=>?_) (fun _=>?_) | refine gA Tryz.func23 ?_ | refine gB ?_ | refine gC ?_ | with_reducible rfl)
 all_goals (simp_all [hostN] <;> omega)
theorem eqDatum_p (a b:List Datum) (hl:a.length≤2147483648):PCalls E 123 [.sl (a.map Datum.enc),.sl (b.map Datum.enc)] (· = .bool (decide (a=b))):=by
 refine eP Tryz.func123 ?_;refine caseB_split (fun h3=>?_) (fun h3=>?_)
 ·have hne:a≠b:=by rintro rfl; simp at h3
  rw [decide_eq_false hne];refine gO Tryz.func123 ?_
  with_reducible rfl
 have hl2:a.length=b.length:=by simp at h3; omega
 refine gO Tryz.func123 ?_;refine AWL.loop (κ:=Nat) ([4,5]++rg 13 13) (fun k=>[(13,.d (.int .i64 k))]) (fun _=>[]) (fun k=>k≤a.length∧a.take k=b.take k) (fun k=>a.length - k) 0 ⟨Nat.zero_le _,rfl⟩ ?_ ?_
 ·(conv=>whnf);repeat (first | exact trivial | (refine sI ?_; conv=>whnf))
 intro k hk IH;refine AWL.head E_ok Tryz.func123 2000 ?_;(conv=>whnf);refine caseB_split (fun h7=>?_) (fun h7=>?_)
 ·have hlt:k<a.length:=by simpa using h7
  obtain ⟨u,hu⟩:=some_of_lt hlt;obtain ⟨w,hw⟩:=some_of_lt (l:=b) (k:=k) (by omega);refine gO Tryz.func123 ?_;refine AWL.draw E_ok E_mixed 9 2000 (by kernel_rfl) ?_;(conv=>whnf);refine elemP_at (e:=u.enc) (at_map hu) rfl ?_;refine gD ?_;refine elemP_at (e:=w.enc) (at_map hw) rfl ?_;refine gD ?_;refine gS ?_;refine gO Tryz.func123 ?_;refine caseB_split (fun h8=>?_) (fun h8=>?_)
  ·have hne:u≠w:=by rintro rfl; simp at h8
   refine gO Tryz.func123 ?_;rw [decide_eq_false (ne_of_at hu hw hne)]
  ·have e1:u=w:=by
    obtain ⟨u1,u2,u3⟩:=u;obtain ⟨w1,w2,w3⟩:=w;simp at h8;simp [h8]
   refine gO Tryz.func123 ?_;refine AWL.back (IH (k+1) ⟨by omega,takeEq_next hk.2 hu hw e1⟩ (by omega)) ?_;(conv=>whnf);repeat (first | exact trivial | (refine sI ?_; conv=>whnf))
 ·have hge:k=a.length:=by simp at h7; omega
  have heb:a=b:=takeEq_all hk.2 (by omega) (by omega);refine gO Tryz.func123 ?_;simp [heb]
theorem eqSig_p (a b:List Sig) (hl:a.length≤2147483648):PCalls E 124 [.sl (a.map Sig.enc),.sl (b.map Sig.enc)] (· = .bool (decide (a=b))):=by
 refine eP Tryz.func124 ?_;refine caseB_split (fun h3=>?_) (fun h3=>?_)
 ·have hne:a≠b:=by rintro rfl; simp at h3
  rw [decide_eq_false hne];refine gO Tryz.func124 ?_
  with_reducible rfl
 have hl2:a.length=b.length:=by simp at h3; omega
 refine gO Tryz.func124 ?_;refine AWL.loop (κ:=Nat) ([4,5]++rg 13 13) (fun k=>[(13,.d (.int .i64 k))]) (fun _=>[]) (fun k=>k≤a.length∧a.take k=b.take k) (fun k=>a.length - k) 0 ⟨Nat.zero_le _,rfl⟩ ?_ ?_
 ·(conv=>whnf);repeat (first | exact trivial | (refine sI ?_; conv=>whnf))
 intro k hk IH;refine AWL.head E_ok Tryz.func124 2000 ?_;(conv=>whnf);refine caseB_split (fun h7=>?_) (fun h7=>?_)
 ·have hlt:k<a.length:=by simpa using h7
  obtain ⟨u,hu⟩:=some_of_lt hlt;obtain ⟨w,hw⟩:=some_of_lt (l:=b) (k:=k) (by omega);refine gO Tryz.func124 ?_;refine AWL.draw E_ok E_mixed 9 2000 (by kernel_rfl) ?_;(conv=>whnf);refine elemP_at (e:=u.enc) (at_map hu) rfl ?_;refine gD ?_;refine elemP_at (e:=w.enc) (at_map hw) rfl ?_;refine gD ?_;refine gS ?_;refine gO Tryz.func124 ?_;refine caseB_split (fun h8=>?_) (fun h8=>?_)
  ·have hne:u≠w:=by rintro rfl; simp at h8
   refine gO Tryz.func124 ?_;rw [decide_eq_false (ne_of_at hu hw hne)]
  ·have e1:u=w:=by
    obtain ⟨u1,u2,u3,u4,u5,u6⟩:=u;obtain ⟨w1,w2,w3,w4,w5,w6⟩:=w;simp at h8;simp [h8]
   refine gO Tryz.func124 ?_;refine AWL.back (IH (k+1) ⟨by omega,takeEq_next hk.2 hu hw e1⟩ (by omega)) ?_;(conv=>whnf);repeat (first | exact trivial | (refine sI ?_; conv=>whnf))
 ·have hge:k=a.length:=by simp at h7; omega
  have heb:a=b:=takeEq_all hk.2 (by omega) (by omega);refine gO Tryz.func124 ?_;simp [heb]
theorem sameZ1_p (x y:Signed) (h1:x.set.data.length≤2147483648) (h2:x.sigs.length≤2147483648):PCalls E 122 [x.enc,y.enc] (· = .bool (decide (x=y))):=by
 obtain ⟨⟨a1,a2,a3,a4⟩,a5⟩:=x;obtain ⟨⟨b1,b2,b3,b4⟩,b5⟩:=y;simp only at h1 h2;have c1:=eqDatum_p a4 b4 h1;have c2:=eqSig_p a5 b5 h2;show PCalls E _ [DV.agg [.str a1,.int .i64 a2,.int .i64 a3,.sl (a4.map Datum.enc),.sl (a5.map Sig.enc)],DV.agg [.str b1,.int .i64 b2,.int .i64 b3,.sl (b4.map Datum.enc),.sl (b5.map Sig.enc)]] _;refine eP Tryz.func122 ?_;repeat' (first | with_reducible refine callP_eq (c1) ?_ | with_reducible refine callP1_eq (c1) ?_ | with_reducible refine callP_eq (c2) ?_ | with_reducible refine callP1_eq (c2) ?_ | with_reducible refine cY ?_ | with_reducible refine cN ?_ | with_reducible refine caseB_split (fun _=>?_) (fun _=>?_) | refine gA Tryz.func122 ?_ | refine gB ?_ | refine gC ?_ | with_reducible rfl)
 all_goals
  refine congrArg DV.bool ?_;rw [Bool.eq_iff_iff];simp_all
end Go.Proofs.YthikfaephakahaaGreatDoor.P
