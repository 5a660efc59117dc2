/- Contracts by the engine: the reference of package copies: Version, behind, Lag, SameCopies, Few. Conditions: lengths that Go allows. -/
import Derived.Test.YthikfaephakahaaGreatDoorZP99
set_option linter.unusedVariables false
set_option linter.unusedSimpArgs false
namespace Go.Proofs.YthikfaephakahaaGreatDoor.P
open Go Go.Eng
set_option maxRecDepth 100000
set_option maxHeartbeats 4000000
theorem verI_none {l:List Version} {z:Zone} (h:∀ v∈l,v.zone≠z):verI l z = -1:=by
 have e:l.findIdx? (fun w=>decide (w.zone=z))=none:=by
  rw [List.findIdx?_eq_none_iff];intro v hv
  simpa using h v hv
 rw [verI,e]
theorem verI_first {l:List Version} {z:Zone} {i:Nat} {v:Version} (hi:l[i]? = some v) (hz:v.zone=z) (hn:∀ k w,k<i→l[k]? = some w→w.zone≠z):verI l z=i:=by
 have hlt:=(List.getElem?_eq_some_iff.1 hi).1;have e:l.findIdx? (fun w=>decide (w.zone=z))=some i:=by
  rw [List.findIdx?_eq_some_iff_getElem];refine ⟨hlt,?_,fun j hj=>?_⟩
  ·have:=(List.getElem?_eq_some_iff.1 hi).2;simp [this,hz]
  ·have:=hn j l[j] hj (by simp)
   simpa using this
 rw [verI,e]
theorem verI_range {l:List Version} {z:Zone} : -1≤verI l z∧verI l z<l.length:=by
 unfold verI;split
 ·rename_i i h;obtain ⟨p,_⟩:=List.findIdx?_eq_some_iff_getElem.1 h;omega
 ·omega
theorem rversion_p (l:List Version) (z:Zone) (hf:VersFit l):PCalls E 26 [.sl (l.map Version.enc),z.enc] (· = .int .i64 (verI l z)):=by
 have hlen:=hf.len;obtain ⟨za,zs⟩:=z;show PCalls E _ [.sl (l.map Version.enc),DV.agg [.str za,.sl (zs.map Signed.enc)]] _;refine eP Tryz.func26 ?_;refine AWL.loop (κ:=Nat) (rg 4 16) (fun k=>[(5,.d (.int .i64 k))]) (fun _=>[]) (fun k=>k≤l.length∧∀ j w,j<k→l[j]? = some w→w.zone≠⟨za,zs⟩) (fun k=>l.length - k) 0 ⟨Nat.zero_le _,fun j w h=>by omega⟩ ?_ ?_
 ·(conv=>whnf);repeat (first | exact trivial | (refine sI ?_; conv=>whnf))
 rintro k ⟨hk,hno⟩ IH;refine AWL.head E_ok Tryz.func26 2000 ?_;(conv=>whnf);refine caseB_split (fun h5=>?_) (fun h5=>?_)
 ·have hlt:k<l.length:=by simpa using h5
  obtain ⟨v,hv⟩:=some_of_lt hlt;have c1:=rsameZone_p v.zone ⟨za,zs⟩ (hf.lens v (List.mem_of_getElem? hv));refine gO Tryz.func26 ?_;refine AWL.draw E_ok E_mixed 7 2000 (by kernel_rfl) ?_;(conv=>whnf);refine elemP_at (e:=v.enc) (at_map hv) rfl ?_;refine gD ?_;by_cases hz:v.zone=⟨za,zs⟩
  ·rw [decide_eq_true hz] at c1;refine callP1_eq (c1) ?_;refine gD ?_;refine gS ?_;refine gO Tryz.func26 ?_;refine caseB_true ?_;refine gO Tryz.func26 ?_;rw [verI_first hv hz hno]
  ·rw [decide_eq_false hz] at c1;refine callP1_eq (c1) ?_;refine gD ?_;refine gS ?_;refine gO Tryz.func26 ?_;refine caseB_false ?_;refine gO Tryz.func26 ?_;refine AWL.back (IH (k+1) ⟨by omega,fun j w hj hw=>?_⟩ (by omega)) ?_
   ·rcases Nat.lt_or_ge j k with h | h
    ·exact hno j w h hw
    ·obtain rfl:j=k:=by omega
     rw [hv] at hw; cases hw; exact hz
   ·(conv=>whnf);repeat (first | exact trivial | (refine sI ?_; conv=>whnf))
 ·have hge:k=l.length:=by simp at h5; omega
  subst hge;refine gO Tryz.func26 ?_
  rw [verI_none fun v hv=>by
   obtain ⟨j,hj⟩:=List.getElem?_of_mem hv
   exact hno j v (List.getElem?_eq_some_iff.1 hj).1 hj]
theorem rbehind15_p (l:List Version) (k from_ upto:Int) (hl:l.length≤1000000) (hk : -1≤k∧k<l.length) (hT:∀ v∈l,0≤v.time) (hu:upto≤10000000):PCalls E 64 [.sl (l.map Version.enc),.int .i64 k,.int .i64 from_,.int .i64 upto] (· = .int .i64 (refB l k from_ upto)):=by
 have hw:IntKind.i64.wrap (k+1)=k+1:=wrap64 (by omega) (by omega);unfold refB;refine eP Tryz.func64 ?_;by_cases h1:(l.length:Int)≤k+1
 ·rw [if_pos (.inl h1)];refine caseB_yes (by simp only [hw,List.length_map,decide_eq_true_eq]; omega) ?_;repeat' (first | with_reducible refine cY ?_ | with_reducible refine cN ?_ | with_reducible refine caseB_split (fun _=>?_) (fun _=>?_) | refine gA Tryz.func64 ?_ | refine gB ?_ | refine gC ?_ | with_reducible rfl)
 ·obtain ⟨v,hv⟩:=some_of_lt (l:=l) (k:=(k+1).toNat) (by omega);have hvt:timeA l (k+1)=v.time:=by rw [timeA,hv]
  have hv0:=hT v (List.mem_of_getElem? hv);have hat:At1 (l.map Version.enc) (k+1) v.enc:=by
   have:=at_map (f:=Version.enc) hv
   rwa [Int.toNat_of_nonneg (by omega)] at this
  rw [hvt];refine caseB_no (by simp only [hw,List.length_map,decide_eq_false_iff_not]; omega) ?_;refine gO Tryz.func64 ?_;refine elemP_at (e:=v.enc) (by rw [hw]; exact hat) rfl ?_;refine gO Tryz.func64 ?_;by_cases h2:upto≤v.time
  ·rw [if_pos (.inr (.inl h2))];refine caseB_yes (decide_eq_true h2) ?_;repeat' (first | with_reducible refine cY ?_ | with_reducible refine cN ?_ | with_reducible refine caseB_split (fun _=>?_) (fun _=>?_) | refine gA Tryz.func64 ?_ | refine gB ?_ | refine gC ?_ | with_reducible rfl)
  ·refine caseB_no (decide_eq_false h2) ?_;refine gO Tryz.func64 ?_;by_cases h3:upto≤from_
   ·rw [if_pos (.inr (.inr h3))];refine caseB_yes (decide_eq_true h3) ?_;repeat' (first | with_reducible refine cY ?_ | with_reducible refine cN ?_ | with_reducible refine caseB_split (fun _=>?_) (fun _=>?_) | refine gA Tryz.func64 ?_ | refine gB ?_ | refine gC ?_ | with_reducible rfl)
   ·rw [if_neg (by omega)];refine caseB_no (decide_eq_false h3) ?_;refine gO Tryz.func64 ?_;refine elemP_at (e:=v.enc) (by rw [hw]; exact hat) rfl ?_;refine gO Tryz.func64 ?_;rw [wrap64 (by omega) (by omega)]
theorem rsameCopies_p (a b:List Copy) (hl:a.length≤1000000) (hz:∀ x∈a,x.zone.Lens):PCalls E 21 [.sl (a.map Copy.enc),.sl (b.map Copy.enc)] (· = .bool (decide (a=b))):=by
 refine eP Tryz.func21 ?_;refine caseB_split (fun h3=>?_) (fun h3=>?_)
 ·have e:decide (a=b)=false:=by
   rw [decide_eq_false];rintro rfl;simp at h3
  rw [e];refine gO Tryz.func21 ?_
  with_reducible rfl
 ·have hl2:a.length=b.length:=by simp at h3; omega
  refine gO Tryz.func21 ?_;refine AWL.loop (κ:=Nat) ([4,5]++rg 11 57) (fun k=>[(5,.d (.int .i64 k))]) (fun _=>[]) (fun k=>k≤a.length∧a.take k=b.take k) (fun k=>a.length - k) 0 ⟨Nat.zero_le _,rfl⟩ ?_ ?_
  ·(conv=>whnf);repeat (first | exact trivial | (refine sI ?_; conv=>whnf))
  intro k hk IH;refine AWL.head E_ok Tryz.func21 2000 ?_;(conv=>whnf);refine caseB_split (fun h7=>?_) (fun h7=>?_)
  ·have hlt:k<a.length:=by simpa using h7
   obtain ⟨u,hu⟩:=some_of_lt hlt;obtain ⟨w,hw⟩:=some_of_lt (l:=b) (k:=k) (by omega);have c1:=rsameZone_p u.zone w.zone (hz u (List.mem_of_getElem? hu));have one:u.host≠w.host∨u.frm≠w.frm∨u.upto≠w.upto∨u.zone≠w.zone→decide (a=b)=false:=fun h=>decide_eq_false (ne_of_at hu hw fun e=>by subst e; simp at h);refine gO Tryz.func21 ?_;refine AWL.draw E_ok E_mixed 51 2000 (by kernel_rfl) ?_;(conv=>whnf);repeat' (first | with_reducible refine elemP_at (at_map hu) rfl ?_ | with_reducible refine elemP_at (at_map hw) rfl ?_ | with_reducible refine callP_eq (c1) ?_ | with_reducible refine callP1_eq (c1) ?_ | with_reducible refine cY ?_ | with_reducible refine cN ?_ | with_reducible refine caseB_split (fun _=>?_) (fun _=>?_) | refine gA Tryz.func21 ?_ | refine gB ?_ | refine gC ?_ | with_reducible rfl)
   all_goals try (rw [one (by simp_all)]; done)
   have e:u=w:=by
    obtain ⟨u1,u2,u3,u4⟩:=u;obtain ⟨w1,w2,w3,w4⟩:=w;simp_all
   refine gO Tryz.func21 ?_;refine AWL.back (IH (k+1) ⟨by omega,takeEq_next hk.2 hu hw e⟩ (by omega)) ?_;(conv=>whnf);repeat (first | exact trivial | (refine sI ?_; conv=>whnf))
  ·have hge:k=a.length:=by simp at h7; omega
   have heb:a=b:=takeEq_all hk.2 (by omega) (by omega);refine gO Tryz.func21 ?_;simp [heb]
def fewVer (l:List Version) (polls:List Poll):Bool:=(l.take 13).all (fun v=>fewZ v.zone)&&(decide (l.length≤12)&&decide (polls.length≤60))
theorem rfew15_p (l:List Version) (polls:List Poll):PCalls E 16 [.sl (l.map Version.enc),.sl (polls.map Poll.enc)] (· = .bool (fewVer l polls)):=by
 unfold fewVer;refine eP Tryz.func16 ?_;refine AWL.loop (κ:=Nat) (rg 4 19) (fun k=>[(5,.d (.int .i64 k))]) (fun _=>[]) (fun k=>k≤l.length∧k≤13∧(l.take k).all (fun v=>fewZ v.zone)=true) (fun k=>l.length - k) 0 ⟨Nat.zero_le _,by omega,rfl⟩ ?_ ?_
 ·(conv=>whnf);repeat (first | exact trivial | (refine sI ?_; conv=>whnf))
 intro k hk IH;refine AWL.head E_ok Tryz.func16 2000 ?_;(conv=>whnf);have hk2:=hk.2.1;refine caseB_split (fun h5=>?_) (fun h5=>?_)
 ·have hlt:k<l.length:=by simpa using h5
  refine gO Tryz.func16 ?_;refine caseB_split (fun h6=>?_) (fun h6=>?_)
  ·have h20:k≤12:=by have:=of_decide_eq_true h6; omega
   obtain ⟨x,hx⟩:=some_of_lt hlt;refine gO Tryz.func16 ?_;refine elemP_at (e:=x.enc) (at_map hx) rfl ?_;refine gO Tryz.func16 ?_
   with_reducible refine callP_eq (rfewZ_p x.zone) ?_
   refine gO Tryz.func16 ?_;cases hz:fewZ x.zone
   ·refine caseB_true ?_;refine gO Tryz.func16 ?_;rw [all_no (p:=fun v:Version=>fewZ v.zone) (k:=k) (by rw [List.getElem?_take,if_pos (by omega)]; exact hx) hz,Bool.false_and]
   ·refine caseB_false ?_;refine gO Tryz.func16 ?_;refine AWL.back (IH (k+1) ⟨by omega,by omega,all_next hk.2.2 hx hz⟩ (by omega)) ?_;(conv=>whnf);repeat (first | exact trivial | (refine sI ?_; conv=>whnf))
  ·have h21:k=13:=by have:=of_decide_eq_false h6; omega
   have hcall:(l.take 13).all (fun v=>fewZ v.zone)=true:=by rw [← h21]; exact hk.2.2
   rw [hcall,Bool.true_and];refine gO Tryz.func16 ?_;repeat' (first | with_reducible refine cY ?_ | with_reducible refine cN ?_ | with_reducible refine caseB_split (fun _=>?_) (fun _=>?_) | refine gA Tryz.func16 ?_ | refine gB ?_ | refine gC ?_ | with_reducible rfl)
   all_goals (first | (simp_all; done) | (simp_all; omega) | (refine congrArg DV.bool ?_; rw [Bool.eq_iff_iff]; simp_all; done) | (refine congrArg DV.bool ?_; rw [Bool.eq_iff_iff]; simp_all; omega))
 ·have hge:l.length≤k:=by simpa using h5
  have hcall:(l.take 13).all (fun v=>fewZ v.zone)=true:=by rw [List.take_of_length_le (by omega)]; exact all_end hk.2.2 hge
  rw [hcall,Bool.true_and];refine gO Tryz.func16 ?_;refine caseB_false ?_;refine gO Tryz.func16 ?_;repeat' (first | with_reducible refine cY ?_ | with_reducible refine cN ?_ | with_reducible refine caseB_split (fun _=>?_) (fun _=>?_) | refine gA Tryz.func16 ?_ | refine gB ?_ | refine gC ?_ | with_reducible rfl)
  all_goals (first | (simp_all; done) | (simp_all; omega) | (refine congrArg DV.bool ?_; rw [Bool.eq_iff_iff]; simp_all; done) | (refine congrArg DV.bool ?_; rw [Bool.eq_iff_iff]; simp_all; omega))
theorem lag_bad {l:List Version} {c:List Copy} {h fin:Int} {x:Copy} (hx:x∈c) (hh:x.host=h) (hb:badC fin x=true):lagM l (mineS c h) fin=(0,1):=by
 unfold lagM;rw [if_neg];intro e;have hm:x∈mineS c h:=(mine_perm.mem_iff).2 (List.mem_filter.2 ⟨hx,by simpa using hh⟩);have:=(okB_iff.1 e).1 x hm;rw [hb] at this;cases this
theorem put_perm {m:List Copy} {x:Copy} {j:Nat}:(m.take j++x::m.drop j).Perm (m++[x]):=by
 refine List.perm_middle.trans ?_;rw [List.take_append_drop];exact (List.perm_append_singleton x m).symm
theorem put_sorted {m:List Copy} {x:Copy} {j:Nat} (hj:j≤m.length) (hs:m.Pairwise fun a b=>a.frm≤b.frm) (h1:∀ y,0<j→m[j - 1]? = some y→y.frm≤x.frm) (h2:∀ y∈m.drop j,x.frm<y.frm):(m.take j++x::m.drop j).Pairwise fun a b=>a.frm≤b.frm:=by
 have h3:∀ y∈m.take j,y.frm≤x.frm:=fun y hy=>by
  obtain ⟨i,hi⟩:=List.getElem?_of_mem hy;rw [List.getElem?_take] at hi;split at hi
  case isFalse=>cases hi
  rename_i hij;obtain ⟨p1,e1⟩:=List.getElem?_eq_some_iff.1 hi;obtain ⟨w,hw⟩:=some_of_lt2 (l:=m) (k:=j - 1) (by omega);have h4:=h1 w (by omega) hw;obtain ⟨p2,e2⟩:=List.getElem?_eq_some_iff.1 hw;by_cases hij2:i=j - 1
  ·subst hij2; rw [hi] at hw; cases hw; exact h4
  ·have:=List.pairwise_iff_getElem.1 hs i (j - 1) p1 p2 (by omega);rw [e1,e2] at this;omega
 rw [List.pairwise_append];refine ⟨hs.sublist (List.take_sublist ..),List.pairwise_cons.2 ⟨fun y hy=>by have:=h2 y hy; omega,hs.sublist (List.drop_sublist ..)⟩,fun a ha b hb=>?_⟩;rcases List.mem_cons.1 hb with rfl | hb
 ·exact h3 a ha
 ·have:=h3 a ha; have:=h2 b hb; omega
def lagF (l:List Version) (m:List Copy):Int × Int:=(m.map (toS l)).foldl (lagStep l) (0,0)
theorem lagF_next {l:List Version} {m:List Copy} {k:Nat} {x:Copy} (h:m[k]? = some x):lagF l (m.take (k+1))=lagStep l (lagF l (m.take k)) (toS l x):=by
 rw [lagF,take_next h,List.map_append,List.foldl_append];rfl
theorem lagF_pos {l:List Version}:∀ {m:List Copy},0≤(lagF l m).1:=by
 have main:∀ (m:List Copy) (p:Int × Int),0≤p.1→0≤((m.map (toS l)).foldl (lagStep l) p).1:=by
  intro m
  induction m with
  |nil=>intro p h; exact h
  |cons x m ih =>
   intro p h;rw [List.map_cons,List.foldl_cons];refine ih _ ?_;exact Int.le_trans h (Int.le_trans lagB_ge lagB_ge)
 intro m;exact main m (0,0) (Int.le_refl _)
theorem put_set {m:List Copy} {g x:Copy} {j:Nat} (hj:j≤m.length):((m.take j++g::m.drop j).map Copy.enc).set j x.enc=(m.take j++x::m.drop j).map Copy.enc:=by
 rw [← List.map_set,List.set_append_right _ _ (by simp; omega),List.length_take,show j - min j m.length=0 by omega,List.set_cons_zero]
theorem put_at {m:List Copy} {g:Copy} {j:Nat} (hj:j≤m.length):(m.take j++g::m.drop j)[j]? = some g:=by
 rw [List.getElem?_append_right (by simp; omega),List.length_take,show j - min j m.length=0 by omega,List.getElem?_cons_zero]
theorem put_before {m:List Copy} {g y:Copy} {k:Nat} (hy:m[k]? = some y):(m.take (k+1)++g::m.drop (k+1))[k]? = some y:=by
 have:=(List.getElem?_eq_some_iff.1 hy).1;rw [List.getElem?_append_left (by simp; omega),List.getElem?_take,if_pos (by omega),hy]
theorem put_shift {m:List Copy} {y:Copy} {k:Nat} (hy:m[k]? = some y):m.take (k+1)++y::m.drop (k+1)=m.take k++y::m.drop k:=by
 obtain ⟨h1,h2⟩:=List.getElem?_eq_some_iff.1 hy;rw [take_next hy,List.drop_eq_getElem_cons h1,h2,List.append_assoc];rfl
theorem rlag_p (l:List Version) (c:List Copy) (h fin:Int) (hf:VersFit l) (hc:c.length≤1000000):PCalls E 20 [.sl (l.map Version.enc),.sl (c.map Copy.enc),.int .i64 h,.int .i64 fin] (· = .tup [.int .i64 (lagV l c h fin).1,.int .i64 (lagV l c h fin).2]):=by
 have hlen:=hf.len;have c1:=rright_p l fin hf;have c2:=rhost_p h;have e0:lagV l c h fin=if (endB fin&&rightB l fin)&&hostN h then lagM l (mineS c h) fin else (0,1):=by rw [lagV,Bool.and_assoc]
 rw [e0];clear e0;refine eP Tryz.func20 ?_
 with_reducible refine callP_eq (c1) ?_
 refine gO Tryz.func20 ?_;cases h1:(endB fin&&rightB l fin)
 ·refine caseB_true ?_;repeat' (first | with_reducible refine cY ?_ | with_reducible refine cN ?_ | with_reducible refine caseB_split (fun _=>?_) (fun _=>?_) | refine gA Tryz.func20 ?_ | refine gB ?_ | refine gC ?_ | with_reducible rfl)
  rfl
 obtain ⟨he,hr⟩:=(Bool.and_eq_true _ _).mp h1;have V:=right_of hr;refine caseB_false ?_;refine gO Tryz.func20 ?_
 with_reducible refine callP_eq (c2) ?_
 refine gO Tryz.func20 ?_;cases h2:hostN h
 ·repeat' (first | with_reducible refine cY ?_ | with_reducible refine cN ?_ | with_reducible refine caseB_split (fun _=>?_) (fun _=>?_) | refine gA Tryz.func20 ?_ | refine gB ?_ | refine gC ?_ | with_reducible rfl)
  rfl
 refine caseB_false ?_;refine gO Tryz.func20 ?_;simp only [Bool.and_self,if_true];simp only [endB,Bool.and_eq_true,decide_eq_true_eq] at he;refine AWL.adopt 10 (45,5) (by decide) rfl ?_;(conv=>whnf);refine AWL.loop (κ:=Nat × List Copy) [8,9,10,11,12,27,28,29,30,31,32,33,34,35,36,37,38,39,40,41,42,43,44,45,46,47,48,49,50,51,52,53,54,55,56,57,58,59,60,61,62,63,64,65,66,67,68,69,70,71,72,73,74,75,76,77,78,79,80,81,82,83,84,85,86,87,88,89,90,91,92,93,94,95,96,97,98,99,100,101,102,103,104,105,106,107,108,109] (fun x=>[(11,.d (.int .i64 x.1)),(10,.own 0 1)]) (fun x=>[(0,.arr 1 (45,5) (x.2.map Copy.enc))]) (fun x=>x.1≤c.length∧x.2.Perm ((c.take x.1).filter fun y=>decide (y.host=h))∧(x.2.Pairwise fun a b=>a.frm≤b.frm)∧∀ y∈x.2,badC fin y=false) (fun x=>c.length - x.1) (0,[]) ⟨Nat.zero_le _,by simp,List.Pairwise.nil,fun y hy=>by simp at hy⟩ ?_ ?_
 ·(conv=>whnf);repeat (first | exact trivial | (refine sI ?_; conv=>whnf))
  refine And.intro rfl ?_;(conv=>whnf);repeat (first | exact trivial | (refine sI ?_; conv=>whnf))
 rintro ⟨i,m⟩ ⟨hi,hp,hs,hb⟩ IH;simp only at hi hp hs hb;refine AWL.head E_ok Tryz.func20 2000 ?_;(conv=>whnf);refine caseB_split (fun h5=>?_) (fun h5=>?_)
 ·have hlt:i<c.length:=by simpa using h5
  obtain ⟨x,hx⟩:=some_of_lt hlt;have hml:m.length≤i:=by
   rw [hp.length_eq];exact Nat.le_trans (List.length_filter_le ..) (by simp; omega)
  refine gO Tryz.func20 ?_;refine elemP_at (e:=x.enc) (at_map hx) rfl ?_;refine gO Tryz.func20 ?_;by_cases hh:x.host=h
  case neg =>
   refine caseB_yes (by simpa using hh) ?_;refine gO Tryz.func20 ?_;refine AWL.back (IH (i+1,m) ⟨by simp only; omega,by simp only; rw [take_next hx,List.filter_append]; simpa [hh] using hp,hs,hb⟩ (by simp only; omega)) ?_;(conv=>whnf);repeat (first | exact trivial | (refine sI ?_; conv=>whnf))
  refine caseB_no (by simpa using hh) ?_;refine gO Tryz.func20 ?_;refine AWL.draw E_ok E_mixed 28 2000 (by kernel_rfl) ?_;(conv=>whnf);repeat' (first | with_reducible refine elemP_at (at_map hx) rfl ?_ | with_reducible refine cY ?_ | with_reducible refine cN ?_ | with_reducible refine caseB_split (fun _=>?_) (fun _=>?_) | refine gA Tryz.func20 ?_ | refine gB ?_ | refine gC ?_ | with_reducible rfl)
  all_goals try (have hbad:badC fin x=true:=by (simp_all [badC] <;> omega))
  all_goals try (rw [lag_bad (List.mem_of_getElem? hx) hh hbad]; done)
  rename_i g1 g2 g3;have hgood:badC fin x=false:=by (simp_all [badC] <;> omega)
  clear g1 g2 g3;refine need_intro ⟨by simp only [List.length_map,List.length_cons,List.length_nil]; omega,by simp [DV.cells]⟩ ?_;refine gO Tryz.func20 ?_;refine AWL.loop (κ:=Nat × Copy) [12,77,78,79,80,81,82,83,84,85,86,87,88,89,90,91,92,93,94,95,96,97,98,99,100,101,102] (fun y=>[(12,.d (.int .i64 y.1)),(10,.own 0 2)]) (fun y=>[(0,.arr 2 (45,5) ((m.take y.1++y.2::m.drop y.1).map Copy.enc))]) (fun y=>y.1≤m.length∧∀ w∈m.drop y.1,x.frm<w.frm) (fun y=>y.1) (m.length,x) ⟨Nat.le_refl _,fun w hw=>by simp at hw⟩ ?_ ?_
  ·(conv=>whnf);repeat (first | exact trivial | (refine sI ?_; conv=>whnf))
   refine And.intro (by simp) ?_;(conv=>whnf);repeat (first | exact trivial | (refine sI ?_; conv=>whnf))
   refine And.intro (by simp) ?_;(conv=>whnf);repeat (first | exact trivial | (refine sI ?_; conv=>whnf))
  rintro ⟨j,g⟩ ⟨hj,hgt⟩ IH2;simp only at hj hgt;have hal:((m.take j++g::m.drop j).map Copy.enc).length=m.length+1:=by simp; omega
  refine AWL.head E_ok Tryz.func20 2000 ?_;(conv=>whnf);rcases j with _ | k
  ·refine AWL.draw E_ok E_mixed 16 2000 (by kernel_rfl) ?_;(conv=>whnf);refine caseB_no (decide_eq_false (by simp only; omega)) ?_;refine gD ?_;refine gS ?_;refine gO Tryz.func20 ?_;refine caseB_false ?_;refine gO Tryz.func20 ?_;refine elemP_at (e:=x.enc) (at_map hx) rfl ?_;refine gO Tryz.func20 ?_;refine need_intro ⟨by omega,by rw [hal]; omega⟩ ?_;refine gO Tryz.func20 ?_;refine elemP_at (e:=g.enc) (at_map (put_at hj)) rfl ?_;refine gO Tryz.func20 ?_;rw [Int.toNat_natCast]
   refine AWL.back (IH (i+1,m.take 0++x::m.drop 0) ⟨by simp only; omega,by simp only; rw [take_next hx,List.filter_append]; simp only [hh,List.filter_cons,decide_true,if_true,List.filter_nil]; exact put_perm.trans (hp.append_right _),put_sorted hj hs (fun y h _=>by omega) hgt,fun y hy=>by
    rcases List.mem_append.1 (put_perm.mem_iff.1 hy) with hy | hy
    ·exact hb y hy
    ·rw [List.mem_singleton.1 hy]; exact hgood⟩ (by simp only; omega)) ?_
   (conv=>whnf);repeat (first | exact trivial | (refine sI ?_; conv=>whnf))
   refine And.intro (put_set (x:=x) hj) ?_;(conv=>whnf);repeat (first | exact trivial | (refine sI ?_; conv=>whnf))
  ·obtain ⟨y,hy⟩:=some_of_lt (l:=m) (k:=k) (by omega);have hwr:IntKind.i64.wrap (((k+1:Nat):Int) - 1)=(k:Int):=by rw [wrap64 (by omega) (by omega)]; omega
   refine AWL.draw E_ok E_mixed 16 2000 (by kernel_rfl) ?_;(conv=>whnf);refine caseB_yes (decide_eq_true (by simp only; omega)) ?_;refine gD ?_;refine need_intro ⟨by simp only; omega,by simp only; rw [hwr,hal]; omega⟩ ?_;refine gD ?_;refine elemP_at (e:=y.enc) (by simp only; rw [hwr]; exact at_map (put_before hy)) rfl ?_;refine gD ?_;refine elemP_at (e:=x.enc) (at_map hx) rfl ?_;refine gD ?_;refine gS ?_;refine gO Tryz.func20 ?_;by_cases h9:x.frm<y.frm
   ·refine caseB_yes (decide_eq_true h9) ?_;refine gO Tryz.func20 ?_;refine need_intro ⟨by simp only; omega,by simp only; rw [hwr,hal]; omega⟩ ?_;refine gO Tryz.func20 ?_;refine elemP_at (e:=y.enc) (by simp only; rw [hwr]; exact at_map (put_before hy)) rfl ?_;refine gO Tryz.func20 ?_;refine need_intro ⟨by simp only; omega,by simp only; rw [hal]; omega⟩ ?_;refine gO Tryz.func20 ?_;refine elemP_at (e:=g.enc) (at_map (put_at hj)) rfl ?_;refine gO Tryz.func20 ?_;refine AWL.back (IH2 (k,y) ⟨by simp only; omega,fun w hw=>?_⟩ (by simp only; omega)) ?_
    ·simp only at hw;obtain ⟨p1,p2⟩:=List.getElem?_eq_some_iff.1 hy;rw [List.drop_eq_getElem_cons p1,p2] at hw;rcases List.mem_cons.1 hw with rfl | hw
     ·exact h9
     ·exact hgt w hw
    ·(conv=>whnf);repeat (first | exact trivial | (refine sI ?_; conv=>whnf))
     refine And.intro (by simp only; rw [Int.toNat_natCast]; exact (put_set (x:=y) hj).trans (by rw [put_shift hy])) ?_;(conv=>whnf);repeat (first | exact trivial | (refine sI ?_; conv=>whnf))
   ·refine caseB_no (decide_eq_false h9) ?_;refine gO Tryz.func20 ?_;refine elemP_at (e:=x.enc) (at_map hx) rfl ?_;refine gO Tryz.func20 ?_;refine need_intro ⟨by omega,by rw [hal]; omega⟩ ?_;refine gO Tryz.func20 ?_;refine elemP_at (e:=g.enc) (at_map (put_at hj)) rfl ?_;refine gO Tryz.func20 ?_;rw [Int.toNat_natCast]
    refine AWL.back (IH (i+1,m.take (k+1)++x::m.drop (k+1)) ⟨by simp only; omega,by simp only; rw [take_next hx,List.filter_append]; simp only [hh,List.filter_cons,decide_true,if_true,List.filter_nil]; exact put_perm.trans (hp.append_right _),put_sorted hj hs (fun w _ hw=>by rw [show k+1 - 1=k by omega,hy] at hw; cases hw; omega) hgt,fun y hy=>by
     rcases List.mem_append.1 (put_perm.mem_iff.1 hy) with hy | hy
     ·exact hb y hy
     ·rw [List.mem_singleton.1 hy]; exact hgood⟩ (by simp only; omega)) ?_
    (conv=>whnf);repeat (first | exact trivial | (refine sI ?_; conv=>whnf))
    refine And.intro (put_set (x:=x) hj) ?_;(conv=>whnf);repeat (first | exact trivial | (refine sI ?_; conv=>whnf))
 ·have hge:c.length≤i:=by simpa using h5
  rw [List.take_of_length_le hge] at hp;clear IH;rw [← lagM_any hp hs];have hml:m.length≤c.length:=by
   rw [hp.length_eq];exact List.length_filter_le ..
  refine gO Tryz.func20 ?_;refine AWL.loop (κ:=Nat) ([8,9,13]++rg 110 18) (fun k=>[(13,.d (.int .i64 k))]) (fun _=>[]) (fun k=>1≤k∧k≤max 1 m.length∧∀ (j:Nat) (a b:Copy),j+1<k→m[j]? = some a→m[j+1]? = some b→a.upto≤b.frm) (fun k=>m.length - k) 1 ⟨Nat.le_refl _,by omega,fun j a b h=>by omega⟩ ?_ ?_
  ·(conv=>whnf);repeat (first | exact trivial | (refine sI ?_; conv=>whnf))
  rintro k ⟨hk1,hk2,hadj⟩ IH;refine AWL.head E_ok Tryz.func20 2000 ?_;(conv=>whnf);refine caseB_split (fun h6=>?_) (fun h6=>?_)
  ·have hlt:k<m.length:=by simpa using h6
   obtain ⟨b,hbk⟩:=some_of_lt hlt;obtain ⟨a,hak⟩:=some_of_lt (l:=m) (k:=k - 1) (by omega);have hwr:IntKind.i64.wrap ((k:Int) - 1)=((k - 1:Nat):Int):=by rw [wrap64 (by omega) (by omega)]; omega
   have hbk2:m[k - 1+1]? = some b:=by rw [show k - 1+1=k by omega]; exact hbk
   refine gO Tryz.func20 ?_;refine AWL.draw E_ok E_mixed 12 2000 (by kernel_rfl) ?_;(conv=>whnf);refine need_intro ⟨by omega,by simp only [List.length_map]; omega⟩ ?_;refine gD ?_;refine elemP_at (e:=b.enc) (at_map hbk) rfl ?_;refine gD ?_;refine need_intro ⟨by rw [hwr]; omega,by rw [hwr]; simp only [List.length_map]; omega⟩ ?_;refine gD ?_;refine elemP_at (e:=a.enc) (by rw [hwr]; exact at_map hak) rfl ?_;refine gD ?_;refine gS ?_;refine gO Tryz.func20 ?_;by_cases h8:b.frm<a.upto
   ·have hno:okB fin m=false:=by
     cases e:okB fin m
     ·rfl
     ·have:=(okB_iff.1 e).2 (k - 1) a b hak hbk2; omega
    have e1:lagM l m fin=(0,1):=by rw [lagM,hno,if_neg (by decide)]
    rw [e1];refine caseB_yes (decide_eq_true h8) ?_;refine gO Tryz.func20 ?_
    with_reducible rfl
   ·refine caseB_no (decide_eq_false h8) ?_;refine gO Tryz.func20 ?_;refine AWL.back (IH (k+1) ⟨by omega,by omega,fun j a' b' hj ha hb2=>?_⟩ (by omega)) ?_
    ·rcases Nat.lt_or_ge (j+1) k with h | h
     ·exact hadj j a' b' h ha hb2
     ·obtain rfl:k=j+1:=by omega
      rw [show j+1 - 1=j by omega,ha] at hak;rw [hbk] at hb2;cases hak; cases hb2;omega
    ·(conv=>whnf);repeat (first | exact trivial | (refine sI ?_; conv=>whnf))
  ·have hge:m.length≤k:=by simpa using h6
   have hok:okB fin m=true:=okB_iff.2 ⟨hb,fun j a b ha hb2=>hadj j a b (by have:=(List.getElem?_eq_some_iff.1 hb2).1; omega) ha hb2⟩;clear IH;refine gO Tryz.func20 ?_;refine AWL.loop (κ:=Nat) ([8,9]++rg 14 4++rg 128 45) (fun k=>[(16,.d (.int .i64 k)),(14,.d (.int .i64 (lagF l (m.take k)).1)),(15,.d (.int .i64 (lagF l (m.take k)).2))]) (fun _=>[]) (fun k=>k≤m.length∧∀ y∈m.take k,¬ verI l y.zone<0) (fun k=>m.length - k) 0 ⟨Nat.zero_le _,fun y hy=>by simp at hy⟩ ?_ ?_
   ·(conv=>whnf);repeat (first | exact trivial | (refine sI ?_; conv=>whnf))
    refine And.intro rfl ?_;(conv=>whnf);repeat (first | exact trivial | (refine sI ?_; conv=>whnf))
    refine And.intro rfl ?_;(conv=>whnf);repeat (first | exact trivial | (refine sI ?_; conv=>whnf))
   rintro k ⟨hk,hv⟩ IH;refine AWL.head E_ok Tryz.func20 2000 ?_;(conv=>whnf);refine caseB_split (fun h7=>?_) (fun h7=>?_)
   ·have hlt:k<m.length:=by simpa using h7
    obtain ⟨x,hx⟩:=some_of_lt hlt;have hxb:=hb x (List.mem_of_getElem? hx);simp only [badC,Bool.or_eq_false_iff,decide_eq_false_iff_not] at hxb;have hnx:=lagF_next (l:=l) hx;have hpos:=lagF_pos (l:=l) (m:=m.take k);have hT:∀ v∈l,0≤v.time:=fun v hv=>(V.times v hv).1;have hvr:=verI_range (l:=l) (z:=x.zone);have c4:=rversion_p l x.zone hf;have c5:=rbehind15_p l (-1) (lagF l (m.take k)).2 x.frm hlen (by omega) hT (by omega);have c6:=rbehind15_p l (verI l x.zone) x.frm x.upto hlen hvr hT (by omega);have e5:max (lagF l (m.take k)).1 (refB l (-1) (lagF l (m.take k)).2 x.frm)=lagB l (lagF l (m.take k)).1 (lagF l (m.take k)).2 x.frm 0:=refB_lag hpos;have e6:max (lagB l (lagF l (m.take k)).1 (lagF l (m.take k)).2 x.frm 0) (refB l (verI l x.zone) x.frm x.upto)=(lagF l (m.take (k+1))).1:=by
     rw [refB_lag (Int.le_trans hpos lagB_ge),hnx]; rfl
    have e7:(lagF l (m.take (k+1))).2=x.upto:=by rw [hnx]; rfl
    refine gO Tryz.func20 ?_;refine need_intro ⟨by omega,by simp only [List.length_map]; omega⟩ ?_;refine gO Tryz.func20 ?_;refine elemP_at (e:=x.enc) (at_map hx) rfl ?_;refine gO Tryz.func20 ?_;refine callP_eq (c4) ?_;refine gO Tryz.func20 ?_;by_cases h8:verI l x.zone<0
    ·refine caseB_yes (decide_eq_true h8) ?_;have e1:lagM l m fin=(0,4):=by
      unfold lagM;rw [if_pos hok,if_pos (List.any_eq_true.2 ⟨x,List.mem_of_getElem? hx,by simpa using h8⟩)]
     rw [e1];refine gO Tryz.func20 ?_
     with_reducible rfl
    ·refine caseB_no (decide_eq_false h8) ?_;refine gO Tryz.func20 ?_;refine need_intro ⟨by omega,by simp only [List.length_map]; omega⟩ ?_;refine gO Tryz.func20 ?_;refine elemP_at (e:=x.enc) (at_map hx) rfl ?_;refine gO Tryz.func20 ?_;refine callP_eq (c5) ?_;refine gO Tryz.func20 ?_;refine AWL.maxK rfl rfl (ev_at rfl) (ev_at rfl) ?_;(conv=>whnf);rw [e5];refine gO Tryz.func20 ?_;refine AWL.draw E_ok E_mixed 16 2000 (by kernel_rfl) ?_;(conv=>whnf);refine need_intro ⟨by omega,by simp only [List.length_map]; omega⟩ ?_;refine gD ?_;refine elemP_at (e:=x.enc) (at_map hx) rfl ?_;refine gD ?_;refine need_intro ⟨by omega,by simp only [List.length_map]; omega⟩ ?_;refine gD ?_;refine elemP_at (e:=x.enc) (at_map hx) rfl ?_;refine gD ?_;refine callP1_eq (c6) ?_;refine gD ?_;refine DWL.maxK rfl rfl (ev_at rfl) (ev_at rfl) ?_;(conv=>whnf);rw [e6];refine gD ?_;refine gS ?_;refine gO Tryz.func20 ?_;refine need_intro ⟨by omega,by simp only [List.length_map]; omega⟩ ?_;refine gO Tryz.func20 ?_;refine elemP_at (e:=x.enc) (at_map hx) rfl ?_;refine gO Tryz.func20 ?_;refine AWL.back (IH (k+1) ⟨by omega,fun y hy=>?_⟩ (by omega)) ?_
     ·rw [take_next hx] at hy;rcases List.mem_append.1 hy with hy | hy
      ·exact hv y hy
      ·rw [List.mem_singleton.1 hy]; exact h8
     ·rw [e7];(conv=>whnf);repeat (first | exact trivial | (refine sI ?_; conv=>whnf))
   ·have hge:m.length≤k:=by simpa using h7
    rw [List.take_of_length_le hge] at hv ⊢;have hT:∀ v∈l,0≤v.time:=fun v hv=>(V.times v hv).1;have c5:=rbehind15_p l (-1) (lagF l m).2 fin hlen (by omega) hT (by omega);have hpos:=lagF_pos (l:=l) (m:=m);have hfin:lagM l m fin=(max (lagF l m).1 (refB l (-1) (lagF l m).2 fin),0):=by
     unfold lagM;rw [if_pos hok,if_neg]
     ·rw [refB_lag hpos]; rfl
     ·intro e;obtain ⟨y,hy,e⟩:=List.any_eq_true.1 e;exact hv y hy (by simpa using e)
    rw [hfin];refine gO Tryz.func20 ?_;refine callP_eq (c5) ?_;refine gO Tryz.func20 ?_;refine AWL.maxK rfl rfl (ev_at rfl) (ev_at rfl) ?_;(conv=>whnf);refine gO Tryz.func20 ?_
    with_reducible rfl
end Go.Proofs.YthikfaephakahaaGreatDoor.P
