/- Contracts by the engine: the reference of package copies: Serves, Spread. Conditions: lengths that Go allows. -/
import Derived.Test.YthikfaephakahaaGreatDoorZP98
import Derived.Test.YthikfaephakahaaGreatDoorZEngGG
set_option linter.unusedVariables false
set_option linter.unusedSimpArgs false
namespace Go.Proofs.YthikfaephakahaaGreatDoor.P
open Go Go.Eng
set_option maxRecDepth 100000
set_option maxHeartbeats 4000000
theorem range_set {n k:Nat} {F:Nat→DV} {z:DV} (h:k<n):((List.range k).map F++List.replicate (n - k) z).set k (F k)=(List.range (k+1)).map F++List.replicate (n - (k+1)) z:=by
 rw [List.set_append_right _ _ (by simp),List.length_map,List.length_range,Nat.sub_self,show n - k=(n - (k+1))+1 by omega,List.replicate_succ,List.set_cons_zero,List.range_succ,List.map_append,List.append_assoc];rfl
def svA (l:List Version) (T:List Int) (fin:Int):List DV:=(List.range l.length).map fun v=>DV.int .i64 (svN l T fin v)
theorem svA_at {l:List Version} {T:List Int} {fin:Int} {j:Nat} (h:j<l.length):(svA l T fin)[j]? = some (.int .i64 (svN l T fin j)):=by simp [svA,h]
theorem svA_len {l:List Version} {T:List Int} {fin:Int}:(svA l T fin).length=l.length:=by simp [svA]
theorem svA_set {l:List Version} {T:List Int} {fin t:Int} {j:Nat} (h:newN l t=j+1):(svA l T fin).set j (.int .i64 (min (svN l T fin j) t))=svA l (T++[t]) fin:=by
 have hle:=newN_le (l:=l) (t:=t);apply List.ext_getElem?;intro i;rw [List.getElem?_set];by_cases e:j=i
 ·subst e;rw [if_pos rfl,if_pos (by rw [svA_len]; omega),svA_at (by omega),svN_snoc,if_pos h]
 ·rw [if_neg e];rcases Nat.lt_or_ge i l.length with hi | hi
  ·rw [svA_at hi,svA_at hi,svN_snoc,if_neg (by omega)]
  ·rw [List.getElem?_eq_none (by rw [svA_len]; exact hi),List.getElem?_eq_none (by rw [svA_len]; exact hi)]
theorem svA_same {l:List Version} {T:List Int} {fin t:Int} (h:newN l t=0):svA l (T++[t]) fin=svA l T fin:=by
 unfold svA;refine List.map_congr_left fun v _=>?_;rw [svN_snoc,if_neg (by omega)]
theorem svN_first {l:List Version} {fin:Int} (hs:VerS l) {i:Nat} {v:Version} (hv:l[i]? = some v) (hT:∀ v∈l,v.time<fin):svN l (l.map (·.time)) fin i=v.time:=by
 have h1:newN l v.time=i+1:=by
  have a1:=(newN_iff hs hv (t:=v.time)).1 (Int.le_refl _);rcases Nat.lt_or_ge (i+1) (newN l v.time) with h | h
  ·obtain ⟨w,hw⟩:=some_of_lt2 (l:=l) (k:=i+1) (by have:=newN_le (l:=l) (t:=v.time); omega);have a2:=(newN_iff hs hw (t:=v.time)).2 h;obtain ⟨p1,e1⟩:=List.getElem?_eq_some_iff.1 hv;obtain ⟨p2,e2⟩:=List.getElem?_eq_some_iff.1 hw;have:=List.pairwise_iff_getElem.1 hs i (i+1) p1 p2 (by omega);rw [e1,e2] at this;omega
  ·omega
 have h2:frmT l (l.map (·.time)) i=some v.time:=frmT_of (List.mem_map.2 ⟨v,List.mem_of_getElem? hv,rfl⟩) h1 fun s hs' hn=>by
  obtain ⟨w,hw,rfl⟩:=List.mem_map.1 hs';obtain ⟨k,hk⟩:=List.getElem?_of_mem hw;have a1:=(newN_iff hs hv (t:=w.time)).2 (by omega);exact a1
 rw [svN_frm (fun t ht=>by obtain ⟨w,hw,rfl⟩:=List.mem_map.1 ht; exact hT w hw),h2];rfl
def pollT (polls:List Poll) (h:Int):List Int:=(polls.filter fun p=>decide (p.host=h) && !p.lost).map (·.time)
theorem pollT_next {polls:List Poll} {h:Int} {k:Nat} {p:Poll} (hp:polls[k]? = some p):pollT (polls.take (k+1)) h=pollT (polls.take k) h++if decide (p.host=h) && !p.lost then [p.time] else []:=by
 rw [pollT,take_next hp,List.filter_append,List.map_append]
 congr 1
 rw [List.filter_cons];split <;> rfl
theorem svA_nil {l:List Version} {fin:Int}:svA l [] fin=(List.range l.length).map fun _=>DV.int .i64 fin:=rfl
theorem rep_get {n k:Nat} {F:Nat→DV} {z:DV} (h:k<n):((List.range k).map F++List.replicate (n - k) z)[k]? = some z:=by
 rw [List.getElem?_append_right (by simp),List.length_map,List.length_range,Nat.sub_self,List.getElem?_replicate,if_pos (by omega)]
theorem rep_len {n k:Nat} {F:Nat→DV} {z:DV} (h:k≤n):((List.range k).map F++List.replicate (n - k) z).length=n:=by simp; omega
theorem at_list {l:List DV} {k:Nat} {x:DV} (h:l[k]? = some x):At1 l (k:Int) x:=⟨by omega,by simpa using h⟩
theorem rserves_p (l:List Version) (pr h fin:Int) (polls:List Poll) (hs:VerS l) (hl:l.length≤1000000) (hT:∀ v∈l,v.time<fin) (hp:polls.length≤1000000):PCalls E 56 [.sl (l.map Version.enc),.bool (decide (h=pr)),.int .i64 h,.sl (polls.map Poll.enc),.int .i64 fin] (· = .sl (svA l (timesL l pr polls h) fin)):=by
 by_cases he:h=pr
 ·rw [decide_eq_true he,timesL,if_pos he];have hF:(List.range l.length).map (fun i:Nat=>DV.int .i64 (timeA l i))=svA l (l.map (·.time)) fin:=by
   refine List.map_congr_left fun i hi=>?_;obtain ⟨v,hv⟩:=some_of_lt2 (l:=l) (k:=i) (by simpa using hi);rw [svN_first hs hv hT];simp [timeA,hv]
  refine eP Tryz.func56 ?_;refine need_intro ?_ ?_
  ·simp; omega
  refine gO Tryz.func56 ?_;refine AWL.loop (κ:=Nat) ([12]++rg 18 19) (fun k=>[(12,.d (.int .i64 k)),(11,.own 0 0)]) (fun k=>[(0,.arr 0 (3,1) ((List.range k).map (fun i:Nat=>DV.int .i64 (timeA l i))++List.replicate (l.length - k) (.int .i64 0)))]) (fun k=>k≤l.length) (fun k=>l.length - k) 0 (Nat.zero_le _) ?_ ?_
  ·(conv=>whnf);repeat (first | exact trivial | (refine sI ?_; conv=>whnf))
   refine And.intro (by simp) ?_;(conv=>whnf);repeat (first | exact trivial | (refine sI ?_; conv=>whnf))
  intro k hk IH;refine AWL.head E_ok Tryz.func56 2000 ?_;(conv=>whnf);refine caseB_split (fun h5=>?_) (fun h5=>?_)
  ·have hlt:k<l.length:=by simpa using h5
   obtain ⟨x,hx⟩:=some_of_lt hlt;have hset:=range_set (F:=fun i:Nat=>DV.int .i64 (timeA l i)) (z := .int .i64 0) hlt;have hrl:=rep_len (F:=fun i:Nat=>DV.int .i64 (timeA l i)) (z := .int .i64 0) hk;refine gO Tryz.func56 ?_;refine need_intro ⟨by omega,by rw [hrl]; omega⟩ ?_;refine gO Tryz.func56 ?_;refine elemP_at (e := .int .i64 0) (at_list (rep_get hlt)) rfl ?_;refine gO Tryz.func56 ?_;refine caseB_true ?_;refine gO Tryz.func56 ?_;refine elemP_at (e:=x.enc) (at_map hx) rfl ?_;refine gO Tryz.func56 ?_;refine need_intro ⟨by omega,by rw [List.length_set,hrl]; omega⟩ ?_;refine gO Tryz.func56 ?_;refine elemP_at (e := .int .i64 fin) (at_list (by rw [Int.toNat_natCast,List.getElem?_set_self (by rw [hrl]; exact hlt)])) rfl ?_;refine gO Tryz.func56 ?_;have hset2:((((List.range k).map (fun i:Nat=>DV.int .i64 (timeA l i))++List.replicate (l.length - k) (DV.int .i64 0)).set (k:Int).toNat (DV.int .i64 fin)).set (k:Int).toNat (DV.int .i64 x.time))=(List.range (k+1)).map (fun i:Nat=>DV.int .i64 (timeA l i))++List.replicate (l.length - (k+1)) (.int .i64 0):=by
    rw [List.set_set,Int.toNat_natCast,← hset];simp [timeA,hx]
   refine AWL.back (IH (k+1) (by omega) (by omega)) ?_;(conv=>whnf);repeat (first | exact trivial | (refine sI ?_; conv=>whnf))
   refine And.intro hset2 ?_;(conv=>whnf);repeat (first | exact trivial | (refine sI ?_; conv=>whnf))
  ·have hge:k=l.length:=by simp at h5; omega
   subst hge;clear IH;rw [Nat.sub_self,List.replicate_zero,List.append_nil,hF];refine gO Tryz.func56 ?_;refine AWL.loop (κ:=Nat) ([13,14]++rg 37 49) (fun k=>[(13,.d (.int .i64 k))]) (fun _=>[]) (fun k=>k=0) (fun k=>polls.length - k) 0 rfl ?_ ?_
   ·(conv=>whnf);repeat (first | exact trivial | (refine sI ?_; conv=>whnf))
   rintro k rfl IH;refine AWL.head E_ok Tryz.func56 2000 ?_;(conv=>whnf);refine caseB_split (fun h5=>?_) (fun h5=>?_)
   ·refine gO Tryz.func56 ?_;refine caseB_false ?_;refine gO Tryz.func56 ?_
    with_reducible rfl
   ·refine gO Tryz.func56 ?_;refine caseB_false ?_;refine gO Tryz.func56 ?_
    with_reducible rfl
 ·rw [decide_eq_false he,timesL,if_neg he];show PCalls E _ _ (· = .sl (svA l (pollT polls h) fin));refine eP Tryz.func56 ?_;refine need_intro ?_ ?_
  ·simp; omega
  refine gO Tryz.func56 ?_;refine AWL.loop (κ:=Nat) ([12]++rg 18 19) (fun k=>[(12,.d (.int .i64 k)),(11,.own 0 0)]) (fun k=>[(0,.arr 0 (3,1) ((List.range k).map (fun _:Nat=>DV.int .i64 fin)++List.replicate (l.length - k) (.int .i64 0)))]) (fun k=>k≤l.length) (fun k=>l.length - k) 0 (Nat.zero_le _) ?_ ?_
  ·(conv=>whnf);repeat (first | exact trivial | (refine sI ?_; conv=>whnf))
   refine And.intro (by simp) ?_;(conv=>whnf);repeat (first | exact trivial | (refine sI ?_; conv=>whnf))
  intro k hk IH;refine AWL.head E_ok Tryz.func56 2000 ?_;(conv=>whnf);refine caseB_split (fun h5=>?_) (fun h5=>?_)
  ·have hlt:k<l.length:=by simpa using h5
   obtain ⟨x,hx⟩:=some_of_lt hlt;have hset:=range_set (F:=fun _:Nat=>DV.int .i64 fin) (z := .int .i64 0) hlt;have hrl:=rep_len (F:=fun _:Nat=>DV.int .i64 fin) (z := .int .i64 0) hk;refine gO Tryz.func56 ?_;refine need_intro ⟨by omega,by rw [hrl]; omega⟩ ?_;refine gO Tryz.func56 ?_;refine elemP_at (e := .int .i64 0) (at_list (rep_get hlt)) rfl ?_;refine gO Tryz.func56 ?_;refine caseB_false ?_;refine gO Tryz.func56 ?_;rw [Int.toNat_natCast,hset];refine AWL.back (IH (k+1) (by omega) (by omega)) ?_;(conv=>whnf);repeat (first | exact trivial | (refine sI ?_; conv=>whnf))
  ·have hge:k=l.length:=by simp at h5; omega
   subst hge;clear IH;rw [Nat.sub_self,List.replicate_zero,List.append_nil,← svA_nil];refine gO Tryz.func56 ?_;refine AWL.loop (κ:=Nat) ([13,14]++rg 37 49) (fun k=>[(13,.d (.int .i64 k)),(11,.own 0 0)]) (fun k=>[(0,.arr 0 (3,1) (svA l (pollT (polls.take k) h) fin))]) (fun k=>k≤polls.length) (fun k=>polls.length - k) 0 (Nat.zero_le _) ?_ ?_
   ·(conv=>whnf);repeat (first | exact trivial | (refine sI ?_; conv=>whnf))
    refine And.intro (by simp [pollT]) ?_;(conv=>whnf);repeat (first | exact trivial | (refine sI ?_; conv=>whnf))
   intro k hk IH;refine AWL.head E_ok Tryz.func56 2000 ?_;(conv=>whnf);refine caseB_split (fun h5=>?_) (fun h5=>?_)
   ·have hlt:k<polls.length:=by simpa using h5
    obtain ⟨p,hp2⟩:=some_of_lt hlt;have hnx:=pollT_next (h:=h) hp2;have hle:=newN_le (l:=l) (t:=p.time);refine gO Tryz.func56 ?_;refine caseB_true ?_;refine gO Tryz.func56 ?_;refine elemP_at (e:=p.enc) (at_map hp2) rfl ?_;refine gO Tryz.func56 ?_;refine callP_eq (rnewest_p l p.time hs hl) ?_;refine gO Tryz.func56 ?_;refine elemP_at (e:=p.enc) (at_map hp2) rfl ?_;refine gO Tryz.func56 ?_;by_cases h6:p.host=h
    ·refine caseB_yes (by simpa using h6) ?_;refine gO Tryz.func56 ?_;refine elemP_at (e:=p.enc) (at_map hp2) rfl ?_;refine gO Tryz.func56 ?_;cases h7:p.lost
     ·rw [if_pos (by simp [h6,h7])] at hnx;refine caseB_yes (by decide) ?_;refine gO Tryz.func56 ?_;by_cases h8:0<newN l p.time
      ·refine caseB_yes (decide_eq_true (by omega)) ?_;refine gO Tryz.func56 ?_;have hset:=svA_set (l:=l) (T:=pollT (polls.take k) h) (fin:=fin) (t:=p.time) (j:=newN l p.time - 1) (by omega);have hcast:(newN l p.time:Int) - 1=((newN l p.time - 1:Nat):Int):=by omega
       rw [hcast];have hat:=svA_at (l:=l) (T:=pollT (polls.take k) h) (fin:=fin) (j:=newN l p.time - 1) (by omega);refine AWL.draw E_ok E_mixed 13 2000 (by kernel_rfl) ?_;(conv=>whnf);refine need_intro ⟨by omega,by rw [svA_len]; omega⟩ ?_;refine gD ?_;refine elemP_at (e := .int .i64 (svN l (pollT (polls.take k) h) fin (newN l p.time - 1))) (at_list hat) rfl ?_;refine gD ?_;refine elemP_at (e:=p.enc) (at_map hp2) rfl ?_;refine gD ?_;refine DWL.minK rfl rfl (ev_at rfl) (ev_at rfl) ?_;refine gD ?_;refine need_intro ⟨by omega,by rw [svA_len]; omega⟩ ?_;refine gD ?_;refine gS ?_;refine elemP_at (e := .int .i64 (svN l (pollT (polls.take k) h) fin (newN l p.time - 1))) (at_list hat) rfl ?_;refine gS ?_;refine gO Tryz.func56 ?_;rw [Int.toNat_natCast,hset];refine AWL.back (IH (k+1) (by omega) (by omega)) ?_;rw [hnx];(conv=>whnf);repeat (first | exact trivial | (refine sI ?_; conv=>whnf))
      ·refine caseB_no (decide_eq_false (by omega)) ?_;refine gO Tryz.func56 ?_;refine AWL.back (IH (k+1) (by omega) (by omega)) ?_;rw [hnx,svA_same (by omega)];(conv=>whnf);repeat (first | exact trivial | (refine sI ?_; conv=>whnf))
     ·rw [if_neg (by simp [h7]),List.append_nil] at hnx;refine caseB_no (by decide) ?_;refine gO Tryz.func56 ?_;refine caseB_false ?_;refine gO Tryz.func56 ?_;refine AWL.back (IH (k+1) (by omega) (by omega)) ?_;rw [hnx];(conv=>whnf);repeat (first | exact trivial | (refine sI ?_; conv=>whnf))
    ·rw [if_neg (by simp [h6]),List.append_nil] at hnx;refine caseB_no (by simpa using h6) ?_;refine gO Tryz.func56 ?_;refine caseB_false ?_;refine gO Tryz.func56 ?_;refine caseB_false ?_;refine gO Tryz.func56 ?_;refine AWL.back (IH (k+1) (by omega) (by omega)) ?_;rw [hnx];(conv=>whnf);repeat (first | exact trivial | (refine sI ?_; conv=>whnf))
   ·have hge:polls.length≤k:=by simpa using h5
    rw [List.take_of_length_le hge];refine gO Tryz.func56 ?_;refine caseB_false ?_;refine gO Tryz.func56 ?_
    with_reducible rfl
theorem spread_one {l:List Version} {pr fin:Int} {polls:List Poll} (e:spreadN l pr polls fin=1):norm (DV.tup [.nilsl,.int .i64 1])=DV.tup [.sl ((spreadR l pr polls fin).map Copy.enc),.int .i64 (spreadN l pr polls fin)]:=by
 rw [spreadR,e,if_neg (by decide)]; rfl
theorem poll_no {l:List Version} {pr fin:Int} {polls:List Poll} {k:Nat} {p:Poll} (hp:polls[k]? = some p) (h:pollOK fin p=false):spreadN l pr polls fin=1:=by
 unfold spreadN;rw [if_neg];intro e;simp only [pollsB,Bool.and_eq_true,decide_eq_true_eq] at e;have:=List.all_eq_true.1 e.2.2.2.2 p (List.mem_of_getElem? hp);rw [h] at this;cases this
theorem spreadTo_mono {l:List Version} {pr fin:Int} {polls:List Poll} {n:Nat}:∀ d,(spreadTo l pr polls fin n).length≤(spreadTo l pr polls fin (n+d)).length
 | 0=>Nat.le_refl _
 |d+1=>by
  rw [show n+(d+1)=n+d+1 by omega,spread_next,List.length_append];have:=spreadTo_mono (l:=l) (pr:=pr) (fin:=fin) (polls:=polls) (n:=n) d;omega
def goC (l:List Version) (h:Int) (S:List Stretch):List Copy:=S.map fun s=>⟨h,s.frm,s.upto,zoneA l s.ver⟩
theorem goR_len {F:Nat→Int}:∀ (n:Nat) (u:Int),(goR F n u).length≤n
 | 0,_=>Nat.le_refl _
 |n+1,u=>by
  rw [goR];split
  ·have:=goR_len (F:=F) n (F n); simp; omega
  ·have:=goR_len (F:=F) n u; omega
theorem drop_next {α:Type} {C:List α} {n:Nat} {x:α} (h:C[n]? = some x):(C.drop n).reverse=(C.drop (n+1)).reverse++[x]:=by
 obtain ⟨h1,h2⟩:=List.getElem?_eq_some_iff.1 h;rw [List.drop_eq_getElem_cons h1,List.reverse_cons,h2]
theorem rspread_p (l:List Version) (pr fin:Int) (polls:List Poll) (hf:VersFit l) (hp:polls.length≤1000000):PCalls E 18 [.sl (l.map Version.enc),.int .i64 pr,.sl (polls.map Poll.enc),.int .i64 fin] (· = .tup [.sl ((spreadR l pr polls fin).map Copy.enc),.int .i64 (spreadN l pr polls fin)]):=by
 have hlen:=hf.len;have c1:=rright_p l fin hf;have c2:=rhost_p pr;refine PCalls.norm ?_;refine eP Tryz.func18 ?_
 with_reducible refine callP_eq (c1) ?_
 refine gO Tryz.func18 ?_;cases h1:(endB fin&&rightB l fin)
 ·have e:spreadN l pr polls fin=1:=by
   unfold spreadN;rw [if_neg];intro e;simp only [Bool.and_eq_true] at e;rw [e.1,e.2.1] at h1;cases h1
  rw [spreadR,e,if_neg (by decide)];refine caseB_true ?_;refine gO Tryz.func18 ?_;refine caseB_true ?_;refine gO Tryz.func18 ?_;refine caseB_true ?_;refine gO Tryz.func18 ?_;rfl
 obtain ⟨he,hr⟩:=(Bool.and_eq_true _ _).mp h1;have V:=right_of hr;refine caseB_false ?_;refine gO Tryz.func18 ?_
 with_reducible refine callP_eq (c2) ?_
 refine gO Tryz.func18 ?_;cases h2:hostN pr
 ·have e:spreadN l pr polls fin=1:=by
   unfold spreadN;rw [if_neg];intro e;simp only [Bool.and_eq_true] at e;rw [e.2.2.1] at h2;cases h2
  rw [spreadR,e,if_neg (by decide)];repeat' (first | with_reducible refine cY ?_ | with_reducible refine cN ?_ | with_reducible refine caseB_split (fun _=>?_) (fun _=>?_) | refine gA Tryz.func18 ?_ | refine gB ?_ | refine gC ?_ | with_reducible rfl)
  rfl
 refine caseB_false ?_;refine gO Tryz.func18 ?_;by_cases h3:4000<polls.length
 ·have e:spreadN l pr polls fin=1:=by
   unfold spreadN;rw [if_neg];intro e;simp only [pollsB,Bool.and_eq_true,decide_eq_true_eq] at e;omega
  rw [spreadR,e,if_neg (by decide)];refine caseB_yes (by simp only [List.length_map,decide_eq_true_eq]; omega) ?_;repeat' (first | with_reducible refine cY ?_ | with_reducible refine cN ?_ | with_reducible refine caseB_split (fun _=>?_) (fun _=>?_) | refine gA Tryz.func18 ?_ | refine gB ?_ | refine gC ?_ | with_reducible rfl)
  rfl
 refine caseB_no (by simp only [List.length_map,decide_eq_false_iff_not]; omega) ?_;refine gO Tryz.func18 ?_;refine AWL.loop (κ:=Nat) ([8,9,10]++rg 32 30) (fun k=>[(10,.d (.int .i64 k))]) (fun _=>[]) (fun k=>k≤polls.length∧(polls.take k).all (pollOK fin)=true) (fun k=>polls.length - k) 0 ⟨Nat.zero_le _,rfl⟩ ?_ ?_
 ·(conv=>whnf);repeat (first | exact trivial | (refine sI ?_; conv=>whnf))
 rintro k ⟨hk,hall⟩ IH;refine AWL.head E_ok Tryz.func18 2000 ?_;(conv=>whnf);refine caseB_split (fun h5=>?_) (fun h5=>?_)
 ·have hlt:k<polls.length:=by simpa using h5
  obtain ⟨p,hp2⟩:=some_of_lt hlt;have c3:=rhost_p p.host;refine gO Tryz.func18 ?_;repeat' (first | with_reducible refine elemP_at (at_map hp2) rfl ?_ | with_reducible refine callP_eq (c3) ?_ | with_reducible refine callP1_eq (c3) ?_ | with_reducible refine cY ?_ | with_reducible refine cN ?_ | with_reducible refine caseB_split (fun _=>?_) (fun _=>?_) | refine gA Tryz.func18 ?_ | refine gB ?_ | refine gC ?_ | with_reducible rfl)
  all_goals try (have hno:pollOK fin p=false:=by (simp_all [pollOK] <;> omega))
  all_goals try (exact spread_one (poll_no hp2 hno))
  rename_i g1 g2 g3;have hok:pollOK fin p=true:=by (simp_all [pollOK] <;> omega)
  refine gO Tryz.func18 ?_;refine AWL.back (IH (k+1) ⟨by omega,all_next hall hp2 hok⟩ (by omega)) ?_;(conv=>whnf);repeat (first | exact trivial | (refine sI ?_; conv=>whnf))
 ·have hge:polls.length≤k:=by simpa using h5
  rw [List.take_of_length_le hge] at hall;have hpb:pollsB polls fin=true:=by simp only [pollsB,Bool.and_eq_true,decide_eq_true_eq]; exact ⟨by omega,hall⟩
  clear IH;have hp3:∀ p∈polls,pollOK fin p=true:=fun p hp=>List.all_eq_true.1 hall p hp;have hn0:∀ n≤64,4000<(spreadTo l pr polls fin n).length→spreadN l pr polls fin=2:=fun n hn hl=>by
   have:=spreadTo_mono (l:=l) (pr:=pr) (fin:=fin) (polls:=polls) (n:=n) (64 - n);rw [show n+(64 - n)=64 by omega] at this;unfold spreadN;rw [he,hr,h2,hpb];simp only [Bool.and_self,if_true];rw [if_pos (show 4000<(spreadC l pr polls fin).length from Nat.lt_of_lt_of_le hl this)]
  have hlt0:∀ v∈l,v.time<fin:=fun v hv=>(V.times v hv).2;refine gO Tryz.func18 ?_;refine AWL.adopt 11 (45,5) (by decide) rfl ?_;(conv=>whnf);refine AWL.loop (κ:=Nat) ([8,9]++rg 11 7++rg 62 62) (fun k=>[(12,.d (.int .i64 k)),(11,.own 0 1)]) (fun k=>[(0,.arr 1 (45,5) ((spreadTo l pr polls fin k).map Copy.enc))]) (fun k=>k≤64∧(spreadTo l pr polls fin k).length≤4000) (fun k=>64 - k) 0 ⟨Nat.zero_le _,by simp [spreadTo]⟩ ?_ ?_
  ·(conv=>whnf);repeat (first | exact trivial | (refine sI ?_; conv=>whnf))
   refine And.intro (by simp [spreadTo]) ?_;(conv=>whnf);repeat (first | exact trivial | (refine sI ?_; conv=>whnf))
  rintro h ⟨hh,hlen4⟩ IH;refine AWL.head E_ok Tryz.func18 2000 ?_;(conv=>whnf);refine caseB_split (fun h6=>?_) (fun h6=>?_)
  ·have hlt:h<64:=by simp at h6; omega
   have hT:∀ t∈timesL l pr polls h,t<fin:=fun t ht=>(times_in V.times hp3 t ht).2;have hgs:=goR_str (l:=l) (T:=timesL l pr polls h) hT;have hnext:=spread_next (l:=l) (pr:=pr) (polls:=polls) (fin:=fin) (n:=h);have hhc:hostC l (timesL l pr polls h) fin h=(goC l h (goR (svN l (timesL l pr polls h) fin) l.length fin)).reverse:=by
    rw [hostC,goC,← List.map_reverse,hgs]
   refine gO Tryz.func18 ?_;refine callP_eq (rserves_p l pr h fin polls V.sorted hlen hlt0 hp) ?_;refine gO Tryz.func18 ?_;generalize hF:svN l (timesL l pr polls h) fin=F at *;have hsv:∀ j,j<l.length→(svA l (timesL l pr polls h) fin)[j]? = some (.int .i64 (F j)):=fun j hj=>by rw [svA_at hj,hF]
   generalize svA l (timesL l pr polls h) fin=SV at *;refine AWL.adopt 15 (45,5) (by decide) rfl ?_;(conv=>whnf);refine AWL.loop (κ:=Nat × Int × List Stretch) [14,15,16,78,79,80,81,82,83,84,85,86,87,88,89,90,91,92,93,94,95,96,97,98,99,100,101,102,103,104,105,106] (fun x=>[(16,.d (.int .i64 ((x.1:Int) - 1))),(14,.d (.int .i64 x.2.1)),(15,.own 1 1)]) (fun x=>[(1,.arr 1 (45,5) ((goC l h x.2.2).map Copy.enc))]) (fun x=>x.1≤l.length∧x.2.2++goR F x.1 x.2.1=goR F l.length fin) (fun x=>x.1) (l.length,fin,[]) ⟨Nat.le_refl _,rfl⟩ ?_ ?_
   ·(conv=>whnf);repeat (first | exact trivial | (refine sI ?_; conv=>whnf))
    refine And.intro rfl ?_;(conv=>whnf);repeat (first | exact trivial | (refine sI ?_; conv=>whnf))
    refine And.intro (by simp only [List.length_map]; exact congrArg (DV.int .i64) (wrap64 (by omega) (by omega))) ?_;(conv=>whnf);repeat (first | exact trivial | (refine sI ?_; conv=>whnf))
   rintro ⟨n,u,acc⟩ ⟨hn,hacc⟩ IH3;simp only at hn hacc;refine AWL.head E_ok Tryz.func18 2000 ?_;(conv=>whnf);rcases n with _ | n
   ·refine caseB_no (decide_eq_false (by simp only; omega)) ?_;rw [goR,List.append_nil] at hacc;subst hacc;clear IH3;have hgl:=goR_len (F:=F) l.length fin;have hgcl:(goC l h (goR F l.length fin)).length≤400:=by rw [goC,List.length_map]; have:=V.few; omega
    generalize goC l h (goR F l.length fin)=C at *;rw [hhc] at hnext;refine gO Tryz.func18 ?_;refine AWL.loop (κ:=Nat) ([11,17]++rg 110 11) (fun n=>[(17,.d (.int .i64 ((n:Int) - 1))),(11,.own 0 1)]) (fun n=>[(0,.arr 1 (45,5) ((spreadTo l pr polls fin h++(C.drop n).reverse).map Copy.enc))]) (fun n=>n≤C.length) (fun n=>n) C.length (Nat.le_refl _) ?_ ?_
    ·(conv=>whnf);repeat (first | exact trivial | (refine sI ?_; conv=>whnf))
     refine And.intro (by simp) ?_;(conv=>whnf);repeat (first | exact trivial | (refine sI ?_; conv=>whnf))
     refine And.intro (by simp only [List.length_map]; exact congrArg (DV.int .i64) (wrap64 (by omega) (by omega))) ?_;(conv=>whnf);repeat (first | exact trivial | (refine sI ?_; conv=>whnf))
    intro n hn2 IH4;refine AWL.head E_ok Tryz.func18 2000 ?_;(conv=>whnf);rcases n with _ | n
    ·refine caseB_no (decide_eq_false (by omega)) ?_;rw [List.drop_zero,← hnext];refine gO Tryz.func18 ?_;by_cases h9:4000<(spreadTo l pr polls fin (h+1)).length
     ·refine caseB_yes (by simp only [List.length_map,decide_eq_true_eq]; omega) ?_;have e2:=hn0 (h+1) (by omega) h9;have e3:spreadR l pr polls fin=[]:=by rw [spreadR,e2,if_neg (by decide)]
      rw [e2,e3];refine gO Tryz.func18 ?_;rfl
     ·refine caseB_no (by simp only [List.length_map,decide_eq_false_iff_not]; omega) ?_;refine gO Tryz.func18 ?_;refine AWL.back (IH (h+1) ⟨by omega,by omega⟩ (by omega)) ?_;(conv=>whnf);repeat (first | exact trivial | (refine sI ?_; conv=>whnf))
    ·refine caseB_yes (decide_eq_true (by omega)) ?_;have e1:((n+1:Nat):Int) - 1=(n:Int):=by omega
     rw [e1];obtain ⟨c,hc⟩:=some_of_lt (l:=C) (k:=n) (by omega);have hdn:=drop_next hc;refine gO Tryz.func18 ?_;refine need_intro ⟨by omega,by simp only [List.length_map]; omega⟩ ?_;refine gO Tryz.func18 ?_;refine elemP_at (e:=c.enc) (at_map hc) rfl ?_;refine gO Tryz.func18 ?_;refine need_intro ⟨by simp only [List.length_map,List.length_append,List.length_reverse,List.length_drop,List.length_cons,List.length_nil]; omega,by simp [DV.cells]⟩ ?_;refine gO Tryz.func18 ?_;refine AWL.back (IH4 n (by omega) (by omega)) ?_;rw [hdn];(conv=>whnf);repeat (first | exact trivial | (refine sI ?_; conv=>whnf))
     refine And.intro (by simp) ?_;(conv=>whnf);repeat (first | exact trivial | (refine sI ?_; conv=>whnf))
   ·refine caseB_yes (decide_eq_true (by simp only; omega)) ?_;have e1:(((n+1,u,acc):Nat × Int × List Stretch).1:Int) - 1=(n:Int):=by simp only; omega
    rw [e1];obtain ⟨v,hv⟩:=some_of_lt (l:=l) (k:=n) (by omega);have hza:=zoneA_at hv;have haccl:acc.length≤l.length:=by
     have:=congrArg List.length hacc;rw [List.length_append] at this;have:=goR_len (F:=F) l.length fin;omega
    refine gO Tryz.func18 ?_;refine elemP_at (e := .int .i64 (F n)) (at_list (hsv n (by omega))) rfl ?_;refine gO Tryz.func18 ?_;refine caseB_split (fun h7=>?_) (fun h7=>?_)
    ·have h8:F n<u:=by simpa using h7
     rw [goR,if_pos h8] at hacc;refine gO Tryz.func18 ?_;refine AWL.draw E_ok E_mixed 14 2000 (by kernel_rfl) ?_;(conv=>whnf);refine elemP_at (e := .int .i64 (F n)) (at_list (hsv n (by omega))) rfl ?_;refine gD ?_;refine elemP_at (e:=v.enc) (at_map hv) rfl ?_;refine gD ?_;refine gS ?_;refine need_intro ⟨by simp only [List.length_map,goC,List.length_cons,List.length_nil]; omega,by simp [DV.cells]⟩ ?_;refine gS ?_;refine gO Tryz.func18 ?_;refine elemP_at (e := .int .i64 (F n)) (at_list (hsv n (by omega))) rfl ?_;refine gO Tryz.func18 ?_;refine AWL.back (IH3 (n,F n,acc++[⟨F n,u,n⟩]) ⟨by simp only; omega,by simp only [List.append_assoc,List.singleton_append]; exact hacc⟩ (by simp only; omega)) ?_;(conv=>whnf);repeat (first | exact trivial | (refine sI ?_; conv=>whnf))
     refine And.intro (by simp [goC,hza]) ?_;(conv=>whnf);repeat (first | exact trivial | (refine sI ?_; conv=>whnf))
    ·have h8:¬ F n<u:=by simpa using h7
     rw [goR,if_neg h8] at hacc;refine gO Tryz.func18 ?_;refine AWL.back (IH3 (n,u,acc) ⟨by simp only; omega,hacc⟩ (by simp only; omega)) ?_;(conv=>whnf);repeat (first | exact trivial | (refine sI ?_; conv=>whnf))
  ·have hge:h=64:=by simp at h6; omega
   subst hge;have e0:spreadN l pr polls fin=0:=by
    unfold spreadN;rw [he,hr,h2,hpb];simp only [Bool.and_self,if_true];rw [if_neg];show ¬ 4000<(spreadTo l pr polls fin 64).length;omega
   have e1:spreadR l pr polls fin=spreadTo l pr polls fin 64:=by rw [spreadR,if_pos e0]; rfl
   rw [e0,e1];refine gO Tryz.func18 ?_;rfl
end Go.Proofs.YthikfaephakahaaGreatDoor.P
