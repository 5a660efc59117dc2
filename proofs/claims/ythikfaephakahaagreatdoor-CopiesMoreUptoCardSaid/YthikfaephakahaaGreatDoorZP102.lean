/- Contracts by the engine: package copies: which versions are right; which polls. Conditions: lengths that Go allows. -/
import Derived.Test.YthikfaephakahaaGreatDoorZP97
import Derived.Test.YthikfaephakahaaGreatDoorZP96
import Derived.Test.YthikfaephakahaaGreatDoorZP99
set_option linter.unusedVariables false
set_option linter.unusedSimpArgs false
namespace Go.Proofs.YthikfaephakahaaGreatDoor.P
open Go Go.Eng
set_option maxRecDepth 100000
set_option maxHeartbeats 4000000
def serA (l:List Version) (i:Nat):Int:=match l[i]? with | some v=>serZ v.zone | none=>0
theorem serA_at {l:List Version} {i:Nat} {v:Version} (h:l[i]? = some v):serA l i=serZ v.zone:=by simp [serA,h]
theorem rng_get {k j:Nat} {F:Nat→DV} {X:List DV} (h:j<k):((List.range k).map F++X)[j]? = some (F j):=by
 rw [List.getElem?_append_left (by simpa using h),List.getElem?_map,List.getElem?_range h]; rfl
theorem VersFit.fewer {l:List Version} (hf:VersFit l) {v:Version} (hv:v∈l):v.zone.Fewer:=by
 obtain ⟨h1,h2⟩:=hf.lens v hv;exact ⟨h1,fun s hs=>⟨(h2 s hs).1,(h2 s hs).2⟩⟩
theorem right15_p (l:List Version) (fin:Int) (hf:VersFit l):PCalls E 50 [.sl (l.map Version.enc),.int .i64 fin] (· = .bool (rightB l fin)):=by
 have hlen:=hf.len;refine eP Tryz.func50 ?_;by_cases h1:l.length<1
 ·have e:rightB l fin=false:=by
   rw [Bool.eq_false_iff]; intro e; have:=(right_iff.1 e).1; omega
  rw [e];refine caseB_yes (by simp only [List.length_map,decide_eq_true_eq]; omega) ?_;repeat' (first | with_reducible refine cY ?_ | with_reducible refine cN ?_ | with_reducible refine caseB_split (fun _=>?_) (fun _=>?_) | refine gA Tryz.func50 ?_ | refine gB ?_ | refine gC ?_ | with_reducible rfl)
 refine caseB_no (by simp only [List.length_map,decide_eq_false_iff_not]; omega) ?_;refine gO Tryz.func50 ?_;by_cases h2:400<l.length
 ·have e:rightB l fin=false:=by
   rw [Bool.eq_false_iff]; intro e; have:=(right_iff.1 e).2.1; omega
  rw [e];refine caseB_yes (by simp only [List.length_map,decide_eq_true_eq]; omega) ?_;repeat' (first | with_reducible refine cY ?_ | with_reducible refine cN ?_ | with_reducible refine caseB_split (fun _=>?_) (fun _=>?_) | refine gA Tryz.func50 ?_ | refine gB ?_ | refine gC ?_ | with_reducible rfl)
 refine caseB_no (by simp only [List.length_map,decide_eq_false_iff_not]; omega) ?_;refine gO Tryz.func50 ?_;obtain ⟨v0,h0⟩:=some_of_lt (l:=l) (k:=0) (by omega);have ha:=apexV_at h0;refine need_intro ?_ ?_
 ·simp; omega
 refine gO Tryz.func50 ?_;refine AWL.loop (κ:=Nat) ([4]++rg 6 5++rg 24 93) (fun k=>[(24,.d (.int .i64 k)),(5,.own 0 0)]) (fun k=>[(0,.arr 0 (3,1) ((List.range k).map (fun i=>DV.int .i64 (serA l i))++List.replicate (l.length - k) (.int .i64 0)))]) (fun k=>k≤l.length∧RightTo l fin k) (fun k=>l.length - k) 0 ⟨Nat.zero_le _,.zero⟩ ?_ ?_
 ·(conv=>whnf);repeat (first | exact trivial | (refine sI ?_; conv=>whnf))
  refine And.intro (by simp) ?_;(conv=>whnf);repeat (first | exact trivial | (refine sI ?_; conv=>whnf))
 rintro i ⟨hi,hR⟩ IH;refine AWL.head E_ok Tryz.func50 2000 ?_;(conv=>whnf);refine caseB_split (fun h5=>?_) (fun h5=>?_)
 ·have hlt:i<l.length:=by simpa using h5
  obtain ⟨x,hx⟩:=some_of_lt hlt;have hxf:=hf.fits x (List.mem_of_getElem? hx);have c2:=zvalid_p x.zone hxf;have hset:=range_set (F:=fun i=>DV.int .i64 (serA l i)) (z := .int .i64 0) hlt;have hrl:=rep_len (F:=fun i=>DV.int .i64 (serA l i)) (z := .int .i64 0) hi;refine gO Tryz.func50 ?_;refine elemP_at (e:=x.enc) (at_map hx) rfl ?_;refine gO Tryz.func50 ?_;refine AWL.draw E_ok E_mixed 26 2000 (by kernel_rfl) ?_;(conv=>whnf);repeat' (first | with_reducible refine elemP_at (at_zero h0) rfl ?_ | with_reducible refine callP_eq (c2) ?_ | with_reducible refine callP1_eq (c2) ?_ | with_reducible refine cY ?_ | with_reducible refine cN ?_ | with_reducible refine caseB_split (fun _=>?_) (fun _=>?_) | refine gA Tryz.func50 ?_ | refine gB ?_ | refine gC ?_ | with_reducible rfl)
  all_goals try (have hno:verOK (apexV l) fin x=false:=by (simp_all [verOK] <;> omega))
  all_goals try (rw [right_no_ok hx hno]; done)
  rename_i h6 h7 h8 h9;have hok:verOK (apexV l) fin x=true:=by (simp_all [verOK] <;> omega)
  have zone_of:∀ v:Version,verOK (apexV l) fin v=true→zoneR v.zone=true:=fun v hv=>by
   simp only [verOK,Bool.and_eq_true] at hv; exact hv.1.2
  have hxz:=zone_of x hok;clear h6 h7 h8 h9 c2;have c4:=serial_p x.zone hxf hxz;have hsx:=serA_at hx;rw [hsx] at hset;have hgx:((List.range (i+1)).map (fun i=>DV.int .i64 (serA l i))++List.replicate (l.length - (i+1)) (.int .i64 0))[i]? = some (.int .i64 (serZ x.zone)):=by rw [rng_get (by omega),hsx]
  have hrl2:=rep_len (F:=fun i=>DV.int .i64 (serA l i)) (z := .int .i64 0) (k:=i+1) (n:=l.length) (by omega);refine callP_eq (c4) ?_;refine gO Tryz.func50 ?_;refine need_intro ⟨by omega,by rw [hrl]; omega⟩ ?_;refine gO Tryz.func50 ?_;refine elemP_at (e := .int .i64 0) (at_listA (rep_get hlt)) rfl ?_;refine gO Tryz.func50 ?_;rw [Int.toNat_natCast,hset];have hnext:(∀ y,0<i→l[i - 1]? = some y→relV y x=true)→∀ (_:∀ j y,j<i→l[j]? = some y→y.zone≠x.zone),RightTo l fin (i+1):=fun h1 h2=>hR.next hx hok h1 h2;refine caseB_split (fun h7=>?_) (fun h7=>?_)
  ·have hz0:i=0:=by simpa using h7
   refine gO Tryz.func50 ?_;refine AWL.back (IH (i+1) ⟨by omega,hnext (fun y h _=>by omega) (fun j y h _=>by omega)⟩ (by omega)) ?_;(conv=>whnf);repeat (first | exact trivial | (refine sI ?_; conv=>whnf))
  ·have hpos:0<i:=by simp at h7; omega
   obtain ⟨w,hw⟩:=some_of_lt (l:=l) (k:=i - 1) (by omega);have hwk:l[i - 1+1]? = some x:=by rw [show i - 1+1=i by omega]; exact hx
   have hwr:IntKind.i64.wrap ((i:Int) - 1)=((i - 1:Nat):Int):=by rw [wrap64 (by omega) (by omega)]; omega
   have hgw:((List.range (i+1)).map (fun i=>DV.int .i64 (serA l i))++List.replicate (l.length - (i+1)) (.int .i64 0))[i - 1]? = some (.int .i64 (serZ w.zone)):=by rw [rng_get (by omega),serA_at hw]
   have c5:=dless_p (serZ w.zone) (serZ x.zone);refine gO Tryz.func50 ?_;refine AWL.draw E_ok E_mixed 15 2000 (by kernel_rfl) ?_;(conv=>whnf);refine need_intro ⟨by rw [hwr]; omega,by rw [hwr,hrl2]; omega⟩ ?_;refine gD ?_;refine elemP_at (e := .int .i64 (serZ w.zone)) (by rw [hwr]; exact at_listA hgw) rfl ?_;refine gD ?_;refine need_intro ⟨by omega,by rw [hrl2]; omega⟩ ?_;refine gD ?_;refine elemP_at (e := .int .i64 (serZ x.zone)) (at_listA hgx) rfl ?_;refine gD ?_;refine callP1_eq (c5) ?_;refine gD ?_;refine gS ?_;refine gO Tryz.func50 ?_;cases hles:lessB (serZ w.zone) (serZ x.zone)
   ·have hrel:relV w x=false:=by simp [relV,hles]
    rw [right_no_rel hw hwk hrel];refine AWL.draw E_ok E_mixed 13 2000 (by kernel_rfl) ?_;(conv=>whnf);refine caseB_yes (by decide) ?_;refine gD ?_;refine gS ?_;refine gO Tryz.func50 ?_;refine caseB_true ?_;refine gO Tryz.func50 ?_
    with_reducible rfl
   ·refine AWL.draw E_ok E_mixed 13 2000 (by kernel_rfl) ?_;(conv=>whnf);refine caseB_no (by decide) ?_;refine gD ?_;refine elemP_at (e:=w.enc) (at_prev hw hpos (by omega)) rfl ?_;refine gD ?_;refine gS ?_;refine gO Tryz.func50 ?_;refine caseB_split (fun h8=>?_) (fun h8=>?_)
    ·have hrel:relV w x=false:=by simp [relV]; intro h; simp at h8; omega
     rw [right_no_rel hw hwk hrel];refine gO Tryz.func50 ?_
     with_reducible rfl
    ·have hrel:relV w x=true:=by simp [relV,hles]; simp at h8; omega
     have hnx:=hnext (fun y _ hy=>by rw [hw] at hy; cases hy; exact hrel);clear hnext;refine gO Tryz.func50 ?_;refine AWL.loop (κ:=Nat) ([63,70,74]++[4,10,93,94,95,96,97,98,99,100,101,102,103,104,105,106,107,108,109,110,111,112,113,114,115]) (fun k=>[(93,.d (.int .i64 k))]) (fun _=>[]) (fun k=>k≤i∧∀ j y,j<k→l[j]? = some y→y.zone≠x.zone) (fun k=>i - k) 0 ⟨Nat.zero_le _,fun j y h=>by omega⟩ ?_ ?_
     ·(conv=>whnf);repeat (first | exact trivial | (refine sI ?_; conv=>whnf))
     rintro k ⟨hk,hno⟩ IH2;refine AWL.head E_ok Tryz.func50 2000 ?_;(conv=>whnf);refine caseB_split (fun g6=>?_) (fun g6=>?_)
     ·have hlt2:k<i:=by simpa using g6
      obtain ⟨y,hy⟩:=some_of_lt (l:=l) (k:=k) (by omega);have hgy:((List.range (i+1)).map (fun i=>DV.int .i64 (serA l i))++List.replicate (l.length - (i+1)) (.int .i64 0))[k]? = some (.int .i64 (serZ y.zone)):=by rw [rng_get (by omega),serA_at hy]
      have c6:=sameZone15_p y.zone x.zone (hf.fewer (List.mem_of_getElem? hy));have next:y.zone≠x.zone→∀ j w,j<k+1→l[j]? = some w→w.zone≠x.zone:=fun hne j w hj hw=>by
       rcases Nat.lt_or_ge j k with h | h
       ·exact hno j w h hw
       ·obtain rfl:j=k:=by omega
        rw [hy] at hw; cases hw; exact hne
      refine gO Tryz.func50 ?_;refine AWL.draw E_ok E_mixed 19 2000 (by kernel_rfl) ?_;(conv=>whnf);refine need_intro ⟨by omega,by rw [hrl2]; omega⟩ ?_;refine gD ?_;refine elemP_at (e := .int .i64 (serZ y.zone)) (at_listA hgy) rfl ?_;refine gD ?_;refine need_intro ⟨by omega,by rw [hrl2]; omega⟩ ?_;refine gD ?_;refine elemP_at (e := .int .i64 (serZ x.zone)) (at_listA hgx) rfl ?_;refine gD ?_;refine caseB_split (fun g7=>?_) (fun g7=>?_)
      ·refine gD ?_;refine elemP_at (e:=y.enc) (at_map hy) rfl ?_;refine gD ?_;by_cases hz:y.zone=x.zone
       ·rw [decide_eq_true hz] at c6;refine callP1_eq (c6) ?_;refine gD ?_;refine gS ?_;refine gO Tryz.func50 ?_;refine caseB_true ?_;refine gO Tryz.func50 ?_;rw [right_no_dup hlt2 hy hx hz]
       ·rw [decide_eq_false hz] at c6;refine callP1_eq (c6) ?_;refine gD ?_;refine gS ?_;refine gO Tryz.func50 ?_;refine caseB_false ?_;refine gO Tryz.func50 ?_;refine AWL.back (IH2 (k+1) ⟨by omega,next hz⟩ (by omega)) ?_;(conv=>whnf);repeat (first | exact trivial | (refine sI ?_; conv=>whnf))
      ·have hz:y.zone≠x.zone:=fun e=>by rw [e] at g7; simp at g7
       refine gD ?_;refine gS ?_;refine gO Tryz.func50 ?_;refine caseB_false ?_;refine gO Tryz.func50 ?_;refine AWL.back (IH2 (k+1) ⟨by omega,next hz⟩ (by omega)) ?_;(conv=>whnf);repeat (first | exact trivial | (refine sI ?_; conv=>whnf))
     ·have hge:k=i:=by simp at g6; omega
      subst hge;clear IH2;refine gO Tryz.func50 ?_;refine AWL.back (IH (k+1) ⟨by omega,hnx hno⟩ (by omega)) ?_;(conv=>whnf);repeat (first | exact trivial | (refine sI ?_; conv=>whnf))
 ·have hge:i=l.length:=by simp at h5; omega
  subst hge;refine gO Tryz.func50 ?_;rw [hR.all (by omega) (by omega)]
theorem pollBad_a (p:Poll) (fin:Int):ACalls E 107 [.cells [.d (.int .i64 fin)]] [.d p.enc,.ptr 0 0] (fun a b=>a = .d (.bool (!pollOK fin p))∧∃ x y z,b=[.cells [.d (.int .i64 fin)],.cells [.d (.int .i64 x),.d (.int .i64 y),.d (.bool z)]]):=by
 have c1:=isHost_p p.host;show ACalls E _ [.cells [.d (.int .i64 fin)]] [.d (.agg [.int .i64 p.host,.int .i64 p.time,.bool p.lost]),.ptr 0 0] _;refine ACalls.run E_ok (fn:=Tryz.f107) Tryz.func107 (body:=Tryz.f107.body.getD .skip) rfl (by decide) 2000 rfl ?_;(conv=>whnf);repeat' (first | with_reducible refine callP_eq (c1) ?_ | with_reducible refine callP1_eq (c1) ?_ | with_reducible refine cY ?_ | with_reducible refine cN ?_ | with_reducible refine caseB_split (fun _=>?_) (fun _=>?_) | refine gA Tryz.func107 ?_ | refine gB ?_ | refine gC ?_ | with_reducible rfl)
 all_goals
  refine ⟨congrArg (fun b=>AV.d (.bool b)) ?_,_,_,_,rfl⟩;first | (simp_all [pollOK]; done) | (simp_all [pollOK]; omega) | (rw [Bool.eq_iff_iff]; simp_all [pollOK]; done) | (rw [Bool.eq_iff_iff]; simp_all [pollOK]; omega) | (cases hh:hostN p.host <;> simp_all [pollOK] <;> (rw [Bool.eq_iff_iff]; simp; omega))
theorem indexPoll_a (polls:List Poll) (fin:Int) (hl:polls.length≤1000000):ACalls E 170 [.cells [.d (.int .i64 fin)]] [.d (.sl (polls.map Poll.enc)),.fn (.func 107) [] [.ptr 0 0]] (fun a b=>(a = .d (.int .i64 (-1))∧polls.all (pollOK fin)=true∧b=[.cells [.d (.int .i64 fin)]])∨∃ (k:Nat) (x y:Int) (z:Bool),a = .d (.int .i64 k)∧polls.all (pollOK fin)=false∧b=[.cells [.d (.int .i64 fin)],.cells [.d (.int .i64 x),.d (.int .i64 y),.d (.bool z)]]):=by
 refine ACalls.run E_ok (fn:=Tryz.f170) Tryz.func170 (body:=Tryz.f170.body.getD .skip) rfl (by decide) 2000 rfl ?_;(conv=>whnf);refine AWL.loop (κ:=Nat) ([4,5]++rg 8 11) (fun k=>[(8,.d (.int .i64 k))]) (fun _=>[]) (fun k=>k≤polls.length∧(polls.take k).all (pollOK fin)=true) (fun k=>polls.length - k) 0 ⟨Nat.zero_le _,rfl⟩ ?_ ?_
 ·(conv=>whnf);repeat (first | exact trivial | (refine sI ?_; conv=>whnf))
 rintro k ⟨hk,hall⟩ IH;refine AWL.head E_ok Tryz.func170 2000 ?_;(conv=>whnf);refine caseB_split (fun h5=>?_) (fun h5=>?_)
 ·have hlt:k<polls.length:=by simpa using h5
  obtain ⟨p,hp⟩:=some_of_lt hlt;refine gO Tryz.func170 ?_;refine elemP_at (e:=p.enc) (at_map hp) rfl ?_;refine gO Tryz.func170 ?_;refine callS_any (pollBad_a p fin) ?_;rintro r h1 ⟨rfl,x,y,z,rfl⟩;refine gO Tryz.func170 ?_;cases hok:pollOK fin p
  ·refine caseB_yes (by decide) ?_;refine gO Tryz.func170 ?_;exact .inr ⟨k,x,y,z,rfl,all_no hp hok,rfl⟩
  ·refine caseB_no (by decide) ?_;refine gO Tryz.func170 ?_;refine AWL.back (IH (k+1) ⟨by omega,all_next hall hp hok⟩ (by omega)) ?_;(conv=>whnf);repeat (first | exact trivial | (refine sI ?_; conv=>whnf))
 ·have hge:polls.length≤k:=by simpa using h5
  rw [List.take_of_length_le hge] at hall;refine gO Tryz.func170 ?_;exact .inl ⟨rfl,hall,rfl⟩
theorem containsPoll_a (polls:List Poll) (fin:Int) (hl:polls.length≤1000000):ACalls E 106 [.cells [.d (.int .i64 fin)]] [.d (.sl (polls.map Poll.enc)),.fn (.func 107) [] [.ptr 0 0]] (fun a b=>a = .d (.bool (!polls.all (pollOK fin)))∧(b=[.cells [.d (.int .i64 fin)]]∨∃ (x y:Int) (z:Bool),b=[.cells [.d (.int .i64 fin)],.cells [.d (.int .i64 x),.d (.int .i64 y),.d (.bool z)]])):=by
 refine ACalls.run E_ok (fn:=Tryz.f106) Tryz.func106 (body:=Tryz.f106.body.getD .skip) rfl (by decide) 2000 rfl ?_;(conv=>whnf);refine callS_any (indexPoll_a polls fin hl) ?_;rintro r h1 (⟨rfl,e,rfl⟩ | ⟨k,x,y,z,rfl,e,rfl⟩)
 ·refine gO Tryz.func106 ?_;rw [e];exact ⟨rfl,.inl rfl⟩
 ·refine gO Tryz.func106 ?_;rw [e];exact ⟨by simp,.inr ⟨x,y,z,rfl⟩⟩
theorem rightPolls_p (polls:List Poll) (fin:Int):PCalls E 52 [.sl (polls.map Poll.enc),.int .i64 fin] (· = .bool (pollsB polls fin)):=by
 unfold pollsB;refine eP Tryz.func52 ?_;by_cases h1:polls.length≤4000
 ·refine caseB_yes (by simp only [List.length_map,decide_eq_true_eq]; omega) ?_;rw [decide_eq_true h1,Bool.true_and];refine gO Tryz.func52 ?_;refine callS_any (containsPoll_a polls fin (by omega)) ?_;rintro r h2 ⟨rfl,rfl | ⟨x,y,z,rfl⟩⟩
  ·refine gO Tryz.func52 ?_;simp
  ·refine gO Tryz.func52 ?_;simp
 ·refine caseB_no (by simp only [List.length_map,decide_eq_false_iff_not]; omega) ?_;rw [decide_eq_false h1,Bool.false_and];repeat' (first | with_reducible refine cY ?_ | with_reducible refine cN ?_ | with_reducible refine caseB_split (fun _=>?_) (fun _=>?_) | refine gA Tryz.func52 ?_ | refine gB ?_ | refine gC ?_ | with_reducible rfl)
end Go.Proofs.YthikfaephakahaaGreatDoor.P
