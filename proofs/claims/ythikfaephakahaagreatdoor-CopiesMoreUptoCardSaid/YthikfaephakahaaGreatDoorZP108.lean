/- Contracts by the engine: package copies: Lag. Conditions: lengths that Go allows. -/
import Derived.Test.YthikfaephakahaaGreatDoorZP101
import Derived.Test.YthikfaephakahaaGreatDoorZP102
import Derived.Test.YthikfaephakahaaGreatDoorZSrtY
set_option linter.unusedVariables false
set_option linter.unusedSimpArgs false
namespace Go.Proofs.YthikfaephakahaaGreatDoor.P
open Go Go.Eng
set_option maxRecDepth 100000
set_option maxHeartbeats 4000000
theorem filtC_next {α:Type} {P:α→Bool} {l:List α} {k:Nat} {x:α} (h:l[k]? = some x):(l.take (k+1)).filter P=(l.take k).filter P++(if P x then [x] else []):=by
 rw [take_next h,List.filter_append];cases hp:P x <;> simp [hp]
theorem filtC_len {α:Type} {P:α→Bool} {l:List α} {k:Nat}:((l.take k).filter P).length≤l.length :=
 Nat.le_trans (List.length_filter_le ..) (by simp; omega)
theorem behind_a (l:List Version) (at_ lag upto fol:Int) (hf:0≤fol) (hT:∀ v∈l,0≤v.time) (hu:0≤upto∧upto≤10000000) (hl:l.length≤1000000) (hT2:∀ v∈l,v.time≤10000000):ACalls E 60 [.cells [.d (.int .i64 at_)],.cells [.d (.sl (l.map Version.enc))],.cells [.d (.int .i64 lag)]] [.d (.int .i64 upto),.d (.int .i64 fol),.ptr 0 0,.ptr 1 0,.ptr 2 0] (fun a b=>a = .tup []∧b=[.cells [.d (.int .i64 upto)],.cells [.d (.sl (l.map Version.enc))],.cells [.d (.int .i64 (lagB l lag at_ upto fol))]]):=by
 unfold lagB;refine ACalls.run E_ok (fn:=Tryz.f60) Tryz.func60 (body:=Tryz.f60.body.getD .skip) rfl (by decide) 2000 rfl ?_;(conv=>whnf);refine caseB_split (fun h1=>?_) (fun h1=>?_)
 ·have h3:at_<upto:=by simpa using h1
  refine gO Tryz.func60 ?_;refine caseB_split (fun h2=>?_) (fun h2=>?_)
  ·have h4:fol<l.length:=by simpa using h2
   rw [if_pos ⟨h3,h4⟩];obtain ⟨v,hv⟩:=some_of_lt (l:=l) (k:=fol.toNat) (by omega);have hm:=List.mem_of_getElem? hv;have A1:At1 (l.map Version.enc) fol v.enc:=by
    have:=at_map (f:=Version.enc) hv
    rwa [Int.toNat_of_nonneg hf] at this
   have e1:timeA l fol=v.time:=by rw [timeA,hv]
   have:=hT v hm;have:=hT2 v hm;have e2:IntKind.i64.wrap (upto - v.time)=upto - v.time:=wrap64 (by omega) (by omega);rw [e1,← e2];refine gO Tryz.func60 ?_;refine AWL.draw E_ok E_mixed 9 2000 (by kernel_rfl) ?_;(conv=>whnf);refine elemP_at (e:=v.enc) A1 rfl ?_;refine gD ?_;refine DWL.maxK rfl rfl (ev_at rfl) (ev_at rfl) ?_;refine gD ?_;refine gS ?_;refine gO Tryz.func60 ?_;exact ⟨rfl,rfl⟩
  ·have h4:¬ fol<l.length:=by simpa using h2
   rw [if_neg (fun e=>h4 e.2)];refine gO Tryz.func60 ?_;exact ⟨rfl,rfl⟩
 ·have h3:¬ at_<upto:=by simpa using h1
  rw [if_neg (fun e=>h3 e.1)];refine gO Tryz.func60 ?_;refine caseB_false ?_;refine gO Tryz.func60 ?_;exact ⟨rfl,rfl⟩
theorem lag3_a (v:Version) (x:Copy) (hf:v.zone.Fewer):ACalls E 62 [.cells [.d (.int .i64 x.host),.d (.int .i64 x.frm),.d (.int .i64 x.upto),.d (.str x.zone.apex),.d (.sl (x.zone.sets.map Signed.enc))]] [.d v.enc,.ptr 0 0] (fun a b=>a = .d (.bool (decide (v.zone=x.zone)))∧b=[.cells [.d (.int .i64 x.host),.d (.int .i64 x.frm),.d (.int .i64 x.upto),.d (.str x.zone.apex),.d (.sl (x.zone.sets.map Signed.enc))],.cells [.d (.int .i64 v.time),.d (.str v.zone.apex),.d (.sl (v.zone.sets.map Signed.enc))]]):=by
 have c1:=sameZone15_p v.zone x.zone hf;show ACalls E _ _ [.d (DV.agg [.int .i64 v.time,.str v.zone.apex,.sl (v.zone.sets.map Signed.enc)]),.ptr 0 0] _;refine ACalls.run E_ok (fn:=Tryz.f62) Tryz.func62 (body:=Tryz.f62.body.getD .skip) rfl (by decide) 2000 rfl ?_;(conv=>whnf);refine callP_eq (c1) ?_;refine gO Tryz.func62 ?_;exact ⟨rfl,rfl⟩
theorem indexVer_a (l:List Version) (x:Copy) (hl:l.length≤1000000) (hf:∀ v∈l,v.zone.Fewer):ACalls E 61 [.cells [.d (.int .i64 x.host),.d (.int .i64 x.frm),.d (.int .i64 x.upto),.d (.str x.zone.apex),.d (.sl (x.zone.sets.map Signed.enc))]] [.d (.sl (l.map Version.enc)),.fn (.func 62) [] [.ptr 0 0]] (fun a b=>a = .d (.int .i64 (verI l x.zone))∧((0≤verI l x.zone∧∃ v:Version,b=[.cells [.d (.int .i64 x.host),.d (.int .i64 x.frm),.d (.int .i64 x.upto),.d (.str x.zone.apex),.d (.sl (x.zone.sets.map Signed.enc))],.cells [.d (.int .i64 v.time),.d (.str v.zone.apex),.d (.sl (v.zone.sets.map Signed.enc))]])∨(verI l x.zone = -1∧b=[.cells [.d (.int .i64 x.host),.d (.int .i64 x.frm),.d (.int .i64 x.upto),.d (.str x.zone.apex),.d (.sl (x.zone.sets.map Signed.enc))]]))):=by
 refine ACalls.run E_ok (fn:=Tryz.f61) Tryz.func61 (body:=Tryz.f61.body.getD .skip) rfl (by decide) 2000 rfl ?_;(conv=>whnf);refine AWL.loop (κ:=Nat) ([4,5]++rg 8 11) (fun k=>[(8,.d (.int .i64 k))]) (fun _=>[]) (fun k=>k≤l.length∧∀ j v,j<k→l[j]? = some v→v.zone≠x.zone) (fun k=>l.length - k) 0 ⟨Nat.zero_le _,fun j v h=>by omega⟩ ?_ ?_
 ·(conv=>whnf);repeat (first | exact trivial | (refine sI ?_; conv=>whnf))
 rintro k ⟨hk,hall⟩ IH;refine AWL.head E_ok Tryz.func61 2000 ?_;(conv=>whnf);refine caseB_split (fun h5=>?_) (fun h5=>?_)
 ·have hlt:k<l.length:=by simpa using h5
  obtain ⟨v,hv⟩:=some_of_lt hlt;refine gO Tryz.func61 ?_;refine elemP_at (e:=v.enc) (at_map hv) rfl ?_;refine gO Tryz.func61 ?_;refine callS_any (lag3_a v x (hf v (List.mem_of_getElem? hv))) ?_;rintro r h1 ⟨rfl,rfl⟩;refine gO Tryz.func61 ?_;by_cases he:v.zone=x.zone
  ·refine caseB_yes (decide_eq_true he) ?_;refine gO Tryz.func61 ?_;have e:=verI_first hv he hall;exact ⟨by rw [e],.inl ⟨by omega,v,rfl⟩⟩
  ·refine caseB_no (decide_eq_false he) ?_;refine gO Tryz.func61 ?_;refine AWL.back (IH (k+1) ⟨by omega,fun j w hj hw=>?_⟩ (by omega)) ?_
   ·rcases Nat.lt_or_eq_of_le (Nat.le_of_lt_succ hj) with h | h
    ·exact hall j w h hw
    ·subst h; rw [hv] at hw; cases hw; exact he
   (conv=>whnf);repeat (first | exact trivial | (refine sI ?_; conv=>whnf))
 ·have hge:k=l.length:=by simp at h5; omega
  subst hge;refine gO Tryz.func61 ?_;have e:verI l x.zone = -1:=verI_none fun v hv=>by
   obtain ⟨j,hj⟩:=List.getElem?_of_mem hv;exact hall j v (List.getElem?_eq_some_iff.1 hj).1 hj
  exact ⟨by rw [e],.inr ⟨e,rfl⟩⟩
theorem len64_zero:PCalls E 190 [.int .u64 0] (· = .int .i64 0):=by
 refine eP Tryz.func190 ?_;refine caseB_no (by decide) ?_;refine gO Tryz.func190 ?_;refine caseB_no (by decide) ?_;refine gO Tryz.func190 ?_;refine caseB_no (by decide) ?_;refine gO Tryz.func190 ?_;refine byteP_intro 0 ?_ ?_ ?_
 ·decide
 ·decide +kernel
 refine gO Tryz.func190 ?_;rfl
theorem bitsLen_zero:PCalls E 119 [.int .u64 0] (· = .int .i64 0):=by
 refine eP Tryz.func119 ?_;refine caseB_false ?_;refine gO Tryz.func119 ?_;refine callP_eq (len64_zero) ?_;refine gO Tryz.func119 ?_
 with_reducible rfl
theorem insCopyNil_a:ACalls E 181 [] [.d (.sl []),.d (.int .i64 0),.d (.int .i64 0),.fn (.func 58) [] []] (fun a b=>a = .tup []∧b=[]):=by
 refine ACalls.run E_ok (fn:=Tryz.f181) Tryz.func181 (body:=Tryz.f181.body.getD .skip) rfl (by decide) 2000 rfl ?_;(conv=>whnf);refine AWL.unroll ?_;refine AWL.run E_ok Tryz.func181 2000 ?_;(conv=>whnf);refine caseB_no (by decide) ?_;refine gO Tryz.func181 ?_;exact ⟨rfl,rfl⟩
theorem pdqCopyNil_a:ACalls E 118 [] [.d (.sl []),.d (.int .i64 0),.d (.int .i64 0),.d (.int .i64 0),.fn (.func 58) [] []] (fun a b=>a = .tup []∧b=[]):=by
 refine ACalls.run E_ok (fn:=Tryz.f118) Tryz.func118 (body:=Tryz.f118.body.getD .skip) rfl (by decide) 2000 rfl ?_;(conv=>whnf);refine AWL.unroll ?_;refine AWL.run E_ok Tryz.func118 2000 ?_;(conv=>whnf);refine caseB_yes (by decide) ?_;refine gO Tryz.func118 ?_
 with_reducible refine callS_eq (insCopyNil_a) ?_
 refine gO Tryz.func118 ?_;exact ⟨rfl,rfl⟩
theorem sortCopyNil_a:ACalls E 57 [] [.d (.sl []),.fn (.func 58) [] []] (fun a b=>a = .tup []∧b=[]):=by
 refine ACalls.run E_ok (fn:=Tryz.f57) Tryz.func57 (body:=Tryz.f57.body.getD .skip) rfl (by decide) 2000 rfl ?_;(conv=>whnf);refine callP_eq (bitsLen_zero) ?_;refine gO Tryz.func57 ?_
 with_reducible refine callS_eq (pdqCopyNil_a) ?_
 refine gO Tryz.func57 ?_;exact ⟨rfl,rfl⟩
theorem lag15_p (l:List Version) (c:List Copy) (h fin:Int) (hf:VersFit l) (hc:c.length≤1000000):PCalls E 19 [.sl (l.map Version.enc),.sl (c.map Copy.enc),.int .i64 h,.int .i64 fin] (· = .tup [.int .i64 (lagV l c h fin).1,.int .i64 (lagV l c h fin).2]):=by
 have hlen:=hf.len;have c1:=isEnd_p fin;have c2:=right15_p l fin hf;have c3:=isHost_p h;unfold lagV;refine eP Tryz.func19 ?_
 with_reducible refine callP_eq (c1) ?_
 refine gO Tryz.func19 ?_;cases he:endB fin
 ·repeat' (first | with_reducible refine cY ?_ | with_reducible refine cN ?_ | with_reducible refine caseB_split (fun _=>?_) (fun _=>?_) | refine gA Tryz.func19 ?_ | refine gB ?_ | refine gC ?_ | with_reducible rfl)
  rfl
 refine caseB_false ?_;refine gO Tryz.func19 ?_
 with_reducible refine callP_eq (c2) ?_
 refine gO Tryz.func19 ?_;cases hr:rightB l fin
 ·repeat' (first | with_reducible refine cY ?_ | with_reducible refine cN ?_ | with_reducible refine caseB_split (fun _=>?_) (fun _=>?_) | refine gA Tryz.func19 ?_ | refine gB ?_ | refine gC ?_ | with_reducible rfl)
  rfl
 refine caseB_false ?_;refine gO Tryz.func19 ?_
 with_reducible refine callP_eq (c3) ?_
 refine gO Tryz.func19 ?_;cases hh:hostN h
 ·repeat' (first | with_reducible refine cY ?_ | with_reducible refine cN ?_ | with_reducible refine caseB_split (fun _=>?_) (fun _=>?_) | refine gA Tryz.func19 ?_ | refine gB ?_ | refine gC ?_ | with_reducible rfl)
  rfl
 have V:=right_of hr;have hfin:1≤fin∧fin≤10000000:=by simpa [endB] using he
 simp only [Bool.and_self,if_true];refine caseB_false ?_;refine gO Tryz.func19 ?_;refine AWL.adopt 10 (45,5) (by decide) rfl ?_;(conv=>whnf);refine AWL.loop (κ:=Nat) ([10,12]++rg 37 13) (fun k=>[(37,.d (.int .i64 k)),(10,.own 1 1)]) (fun k=>[(1,.arr 1 (45,5) (((c.take k).filter (fun x=>decide (x.host=h))).map Copy.enc))]) (fun k=>k≤c.length) (fun k=>c.length - k) 0 (Nat.zero_le _) ?_ ?_
 ·(conv=>whnf);repeat (first | exact trivial | (refine sI ?_; conv=>whnf))
  refine And.intro rfl ?_;(conv=>whnf);repeat (first | exact trivial | (refine sI ?_; conv=>whnf))
 intro k hk IH;refine AWL.head E_ok Tryz.func19 2000 ?_;(conv=>whnf);refine caseB_split (fun h5=>?_) (fun h5=>?_)
 ·have hlt:k<c.length:=by simpa using h5
  obtain ⟨x,hx⟩:=some_of_lt hlt;have hnx:=filtC_next (P:=fun x:Copy=>decide (x.host=h)) hx;have hln:=filtC_len (P:=fun x:Copy=>decide (x.host=h)) (l:=c) (k:=k);refine gO Tryz.func19 ?_;refine elemP_at (e:=x.enc) (at_map hx) rfl ?_;refine gO Tryz.func19 ?_;refine caseB_split (fun h6=>?_) (fun h6=>?_)
  ·refine gO Tryz.func19 ?_;refine need_intro ⟨by simp only [List.length_map,List.length_append,List.length_cons,List.length_nil]; omega,by simp [DV.cells]⟩ ?_;refine gO Tryz.func19 ?_;refine AWL.back (IH (k+1) (by omega) (by omega)) ?_;rw [hnx,if_pos (by simpa using h6)];(conv=>whnf);repeat (first | exact trivial | (refine sI ?_; conv=>whnf))
   refine And.intro (by simp) ?_;(conv=>whnf);repeat (first | exact trivial | (refine sI ?_; conv=>whnf))
  ·refine gO Tryz.func19 ?_;refine AWL.back (IH (k+1) (by omega) (by omega)) ?_;rw [hnx,if_neg (by simpa using h6),List.append_nil];(conv=>whnf);repeat (first | exact trivial | (refine sI ?_; conv=>whnf))
 have hge:c.length≤k:=by simpa using h5
 rw [List.take_of_length_le hge];clear IH;have hML:(c.filter fun x=>decide (x.host=h)).length≤c.length:=List.length_filter_le ..;have hany:=fun (m:List Copy) (hp:m.Perm (c.filter fun x=>decide (x.host=h))) (hs:m.Pairwise fun a b=>a.frm≤b.frm)=>lagM_any (l:=l) (fin:=fin) hp hs;generalize (c.filter fun x=>decide (x.host=h))=M at *;by_cases hM:M=[]
 ·subst hM;rw [← hany [] (List.Perm.refl _) List.Pairwise.nil];(conv=>whnf);refine AWL.freeze 1 ?_;(conv=>whnf);refine gO Tryz.func19 ?_
  with_reducible refine callS_eq ((show ACalls E 57 [] [.d (.sl (([]:List Copy).map Copy.enc)),.fn (.func 58) [] []] (fun a b=>a = .tup []∧b=[]) from by simpa using sortCopyNil_a)) ?_
  refine gO Tryz.func19 ?_;refine AWL.unroll ?_;refine AWL.run E_ok Tryz.func19 2000 ?_;(conv=>whnf);refine caseB_no (by decide) ?_;refine gO Tryz.func19 ?_;refine AWL.unroll ?_;refine AWL.run E_ok Tryz.func19 2000 ?_;(conv=>whnf);refine caseB_no (by decide) ?_;refine gO Tryz.func19 ?_
  with_reducible refine callS_eq (behind_a l 0 0 fin 0 (by decide) (fun v hv=>(V.times v hv).1) ⟨by omega,by omega⟩ hlen (fun v hv=>by have:=(V.times v hv).2; omega)) ?_
  refine gO Tryz.func19 ?_;rfl
 ·refine gO Tryz.func19 ?_
  with_reducible refine callS_any (sortCopy_a M hM (by omega)) ?_
  rintro r h1 ⟨rfl,m,hp,hs,rfl⟩;rw [← hany m hp hs];have hmL:=hp.length_eq;clear hany hp hs;have hno:okB fin m=false→lagM l m fin=(0,1):=fun e=>by rw [lagM,e]; rfl
  (conv=>whnf);refine AWL.freeze 1 ?_;(conv=>whnf);refine gO Tryz.func19 ?_;refine AWL.loop (κ:=Nat) ([8,9,13,14]++rg 54 37) (fun k=>[(54,.d (.int .i64 k))]) (fun k=>[]) (fun k=>k≤m.length∧(∀ j x,j<k→m[j]? = some x→badC fin x=false)∧∀ j x y,j+1<k→m[j]? = some x→m[j+1]? = some y→x.upto≤y.frm) (fun k=>m.length - k) 0 ⟨Nat.zero_le _,fun j x h=>by omega,fun j x y h=>by omega⟩ ?_ ?_
  ·(conv=>whnf);repeat (first | exact trivial | (refine sI ?_; conv=>whnf))
  rintro k ⟨hk,hk1,hk2⟩ IH;refine AWL.head E_ok Tryz.func19 2000 ?_;(conv=>whnf);refine caseB_split (fun h5=>?_) (fun h5=>?_)
  ·have hlt:k<m.length:=by simpa using h5
   obtain ⟨x,hx⟩:=some_of_lt hlt;refine gO Tryz.func19 ?_;refine elemP_at (e:=x.enc) (at_map hx) rfl ?_;refine gO Tryz.func19 ?_
   have hbad:badC fin x=true→lagM l m fin=(0,1):=fun e=>hno (by
    cases ho:okB fin m
    ·rfl
    ·have:=(okB_iff.1 ho).1 x (List.mem_of_getElem? hx)
     rw [e] at this; cases this)
   have hleaf:(decide (x.frm<0)=true∨decide (x.frm≥x.upto)=true∨decide (x.upto>fin)=true)→lagM l m fin=(0,1):=fun e=>hbad (by
    simp only [decide_eq_true_eq] at e;simp only [badC,Bool.or_eq_true,decide_eq_true_eq]
    omega)
   have hfine:decide (x.frm<0)=false→decide (x.frm≥x.upto)=false→decide (x.upto>fin)=false→badC fin x=false:=fun e1 e2 e3=>by
    have e1:=of_decide_eq_false e1;have e2:=of_decide_eq_false e2;have e3:=of_decide_eq_false e3;simp only [badC,Bool.or_eq_false_iff,decide_eq_false_iff_not];omega
   have hn1:badC fin x=false→∀ j x,j<k+1→m[j]? = some x→badC fin x=false:=fun e j w hj hw=>by
    rcases Nat.lt_or_eq_of_le (Nat.le_of_lt_succ hj) with h | h
    ·exact hk1 j w h hw
    ·subst h; rw [hx] at hw; cases hw; exact e
   rcases k with _ | k
   ·refine AWL.draw E_ok E_mixed 31 2000 (by kernel_rfl) ?_;(conv=>whnf);refine caseB_split (fun q1=>?_) (fun q1=>?_)
    ·repeat' (first | with_reducible refine cY ?_ | with_reducible refine cN ?_ | with_reducible refine caseB_split (fun _=>?_) (fun _=>?_) | refine gA Tryz.func19 ?_ | refine gB ?_ | refine gC ?_ | with_reducible rfl)
     rw [hleaf (.inl q1)]
    refine gD ?_;refine caseB_split (fun q2=>?_) (fun q2=>?_)
    ·repeat' (first | with_reducible refine cY ?_ | with_reducible refine cN ?_ | with_reducible refine caseB_split (fun _=>?_) (fun _=>?_) | refine gA Tryz.func19 ?_ | refine gB ?_ | refine gC ?_ | with_reducible rfl)
     rw [hleaf (.inr (.inl q2))]
    refine gD ?_;refine caseB_split (fun q3=>?_) (fun q3=>?_)
    ·repeat' (first | with_reducible refine cY ?_ | with_reducible refine cN ?_ | with_reducible refine caseB_split (fun _=>?_) (fun _=>?_) | refine gA Tryz.func19 ?_ | refine gB ?_ | refine gC ?_ | with_reducible rfl)
     rw [hleaf (.inr (.inr q3))]
    repeat' (first | with_reducible refine cY ?_ | with_reducible refine cN ?_ | with_reducible refine caseB_split (fun _=>?_) (fun _=>?_) | refine gA Tryz.func19 ?_ | refine gB ?_ | refine gC ?_ | with_reducible rfl)
    refine gO Tryz.func19 ?_;refine AWL.back (IH 1 ⟨by omega,hn1 (hfine q1 q2 q3),fun j x y h=>by omega⟩ (by omega)) ?_;(conv=>whnf);repeat (first | exact trivial | (refine sI ?_; conv=>whnf))
   ·obtain ⟨y,hy⟩:=some_of_lt (l:=m) (k:=k) (by omega);have A1:=at_prev (f:=Copy.enc) (l:=m) (k:=k+1) (x:=y) hy (by omega) (by omega);refine AWL.draw E_ok E_mixed 31 2000 (by kernel_rfl) ?_;(conv=>whnf);refine caseB_split (fun q1=>?_) (fun q1=>?_)
    ·repeat' (first | with_reducible refine cY ?_ | with_reducible refine cN ?_ | with_reducible refine caseB_split (fun _=>?_) (fun _=>?_) | refine gA Tryz.func19 ?_ | refine gB ?_ | refine gC ?_ | with_reducible rfl)
     rw [hleaf (.inl q1)]
    refine gD ?_;refine caseB_split (fun q2=>?_) (fun q2=>?_)
    ·repeat' (first | with_reducible refine cY ?_ | with_reducible refine cN ?_ | with_reducible refine caseB_split (fun _=>?_) (fun _=>?_) | refine gA Tryz.func19 ?_ | refine gB ?_ | refine gC ?_ | with_reducible rfl)
     rw [hleaf (.inr (.inl q2))]
    refine gD ?_;refine caseB_split (fun q3=>?_) (fun q3=>?_)
    ·repeat' (first | with_reducible refine cY ?_ | with_reducible refine cN ?_ | with_reducible refine caseB_split (fun _=>?_) (fun _=>?_) | refine gA Tryz.func19 ?_ | refine gB ?_ | refine gC ?_ | with_reducible rfl)
     rw [hleaf (.inr (.inr q3))]
    refine gD ?_;refine caseB_yes (decide_eq_true (by omega)) ?_;refine gD ?_;refine elemP_at (e:=y.enc) A1 rfl ?_;refine gD ?_;refine gS ?_;refine gO Tryz.func19 ?_;refine caseB_split (fun q4=>?_) (fun q4=>?_)
    ·refine gO Tryz.func19 ?_
     rw [hno (by
      cases ho:okB fin m
      ·rfl
      ·have:=(okB_iff.1 ho).2 k y x hy hx;have:=of_decide_eq_true q4
       omega)]
    ·refine gO Tryz.func19 ?_;refine AWL.back (IH (k+2) ⟨by omega,hn1 (hfine q1 q2 q3),fun j u w hj hu hw=>?_⟩ (by omega)) ?_
     ·by_cases e:j=k
      ·subst e; rw [hy] at hu; rw [hx] at hw; cases hu; cases hw;have:=of_decide_eq_false q4;omega
      ·exact hk2 j u w (by omega) hu hw
     (conv=>whnf);repeat (first | exact trivial | (refine sI ?_; conv=>whnf))
  ·have hge:k=m.length:=by simp at h5; omega
   subst hge
   have hok:okB fin m=true:=okB_iff.2 ⟨fun x hx=>by
    obtain ⟨j,hj⟩:=List.getElem?_of_mem hx
    exact hk1 j x (List.getElem?_eq_some_iff.1 hj).1 hj,fun j x y hx hy=>hk2 j x y (List.getElem?_eq_some_iff.1 hy).1 hx hy⟩
   have hO:=okB_iff.1 hok;have hT1:∀ v∈l,0≤v.time:=fun v hv=>(V.times v hv).1;have hT2:∀ v∈l,v.time≤10000000:=fun v hv=>by have:=(V.times v hv).2; omega
   clear IH hno hk1 hk2;refine gO Tryz.func19 ?_;refine AWL.loop (κ:=Nat) ([8,9,19,20]++rg 94 20) (fun k=>[(94,.d (.int .i64 k))]) (fun k=>[(2,.cells [.d (.int .i64 (lagF l (m.take k)).1)]),(3,.cells [.d (.int .i64 (lagF l (m.take k)).2)])]) (fun k=>k≤m.length∧∀ j x,j<k→m[j]? = some x→0≤verI l x.zone) (fun k=>m.length - k) 0 ⟨Nat.zero_le _,fun j x h=>by omega⟩ ?_ ?_
   ·(conv=>whnf);repeat (first | exact trivial | (refine sI ?_; conv=>whnf))
    refine And.intro rfl ?_;(conv=>whnf);repeat (first | exact trivial | (refine sI ?_; conv=>whnf))
    refine And.intro rfl ?_;(conv=>whnf);repeat (first | exact trivial | (refine sI ?_; conv=>whnf))
   rintro k ⟨hk,hv⟩ IH;refine AWL.head E_ok Tryz.func19 2000 ?_;(conv=>whnf);refine caseB_split (fun h5=>?_) (fun h5=>?_)
   ·have hlt:k<m.length:=by simpa using h5
    obtain ⟨x,hx⟩:=some_of_lt hlt;have hbx:=hO.1 x (List.mem_of_getElem? hx);simp only [badC,Bool.or_eq_false_iff,decide_eq_false_iff_not] at hbx;have hvr:=verI_range (l:=l) (z:=x.zone);have ew:IntKind.i64.wrap (verI l x.zone+1)=verI l x.zone+1:=wrap64 (by omega) (by omega);have hnx:=lagF_next (l:=l) hx;refine gO Tryz.func19 ?_;refine elemP_at (e:=x.enc) (at_map hx) rfl ?_;refine gO Tryz.func19 ?_
    with_reducible refine callS_any (indexVer_a l x hlen (fun v hv=>hf.fewer hv)) ?_
    rintro r h1 ⟨rfl,⟨h8,v,rfl⟩ | ⟨h8,rfl⟩⟩
    ·refine gO Tryz.func19 ?_;refine caseB_no (decide_eq_false (by omega)) ?_;refine gO Tryz.func19 ?_
     with_reducible refine callS_eq (behind_a l (lagF l (m.take k)).2 (lagF l (m.take k)).1 x.frm 0 (by decide) hT1 ⟨by omega,by omega⟩ hlen hT2) ?_
     refine gO Tryz.func19 ?_
     with_reducible refine callS_eq (behind_a l x.frm (lagB l (lagF l (m.take k)).1 (lagF l (m.take k)).2 x.frm 0) x.upto (IntKind.i64.wrap (verI l x.zone+1)) (by omega) hT1 ⟨by omega,by omega⟩ hlen hT2) ?_
     refine gO Tryz.func19 ?_;refine AWL.back (IH (k+1) ⟨by omega,fun j w hj hw=>?_⟩ (by omega)) ?_
     ·rcases Nat.lt_or_eq_of_le (Nat.le_of_lt_succ hj) with h | h
      ·exact hv j w h hw
      ·subst h; rw [hx] at hw; cases hw; exact h8
     (conv=>whnf);repeat (first | exact trivial | (refine sI ?_; conv=>whnf))
     refine And.intro (by rw [hnx,ew]; rfl) ?_;(conv=>whnf);repeat (first | exact trivial | (refine sI ?_; conv=>whnf))
     refine And.intro (by rw [hnx]; rfl) ?_;(conv=>whnf);repeat (first | exact trivial | (refine sI ?_; conv=>whnf))
    ·refine gO Tryz.func19 ?_;refine caseB_yes (decide_eq_true (by omega)) ?_;have e1:lagM l m fin=(0,4):=by
      unfold lagM;rw [if_pos hok,if_pos (List.any_eq_true.2 ⟨x,List.mem_of_getElem? hx,by simp [h8]⟩)]
     rw [e1];refine gO Tryz.func19 ?_
     with_reducible rfl
   ·have hge:k=m.length:=by simp at h5; omega
    subst hge;have e1:lagM l m fin=(lagB l (lagF l m).1 (lagF l m).2 fin 0,0):=by
     unfold lagM;rw [if_pos hok,if_neg]
     ·rfl
     ·intro e;obtain ⟨y,hy,e⟩:=List.any_eq_true.1 e;obtain ⟨j,hj⟩:=List.getElem?_of_mem hy;have:=hv j y (List.getElem?_eq_some_iff.1 hj).1 hj;simp at e;omega
    rw [List.take_length,e1];clear IH;refine gO Tryz.func19 ?_
    with_reducible refine callS_eq (behind_a l (lagF l m).2 (lagF l m).1 fin 0 (by decide) hT1 ⟨by omega,by omega⟩ hlen hT2) ?_
    refine gO Tryz.func19 ?_
    with_reducible rfl
end Go.Proofs.YthikfaephakahaaGreatDoor.P
