/- Several texts of mine, one behind the other. Conditions: as each says. -/
import Derived.Test.YtnlkbbboajcoeaaGreatDoorZN8
set_option linter.unusedVariables false
set_option linter.unusedSimpArgs false
section
namespace Go.Proofs.YtnlkbbboajcoeaaGreatDoor.P
open Go Go.Eng
set_option maxRecDepth 100000
set_option maxHeartbeats 4000000
def cutC (p:Spot) (at_:Int) (c:Copy):Copy:=if c.spot=p then { c with upto:=min c.upto at_ } else c
def cut1 (p:Spot) (at_:Int) (c:Copy):List Copy:=if (cutC p at_ c).frm<(cutC p at_ c).upto then [cutC p at_ c] else []
def cutL (p:Spot) (at_:Int) (l:List Copy):List Copy:=l.flatMap (cut1 p at_)
def oneP (fin at_:Int) (cs:List Copy) (p:Placed):List Copy:=cutL p.spot at_ cs++(if p.zone.sets.isEmpty then [] else [⟨p.host,at_,fin,p.zone⟩])
def oneL (fin at_:Int) (cs:List Copy) (l:List Placed):List Copy:=l.foldl (oneP fin at_) cs
theorem oneL_next {fin at_:Int} {cs:List Copy} {l:List Placed} {k:Nat} {x:Placed} (h:l[k]? = some x):oneL fin at_ cs (l.take (k+1))=oneP fin at_ (oneL fin at_ cs (l.take k)) x:=by
 rw [take_next h,oneL,List.foldl_append]; rfl
theorem cut_next {p:Spot} {at_:Int} {l:List Copy} {k:Nat} {c:Copy} (h:l[k]? = some c):cutL p at_ (l.take (k+1))=cutL p at_ (l.take k)++cut1 p at_ c:=by
 rw [take_next h,cutL,List.flatMap_append];simp [cutL]
theorem cut_len {p:Spot} {at_:Int}:∀ (l:List Copy),(cutL p at_ l).length≤l.length
 | []=>by simp [cutL]
 |c::l=>by
  have:=cut_len (p:=p) (at_:=at_) l;unfold cutL at this ⊢;rw [List.flatMap_cons,List.length_append,List.length_cons];have h1:(cut1 p at_ c).length≤1:=by unfold cut1; split <;> simp
  omega
theorem oneL_len {fin at_:Int} {cs:List Copy} {l:List Placed}:∀ k,k≤l.length→(oneL fin at_ cs (l.take k)).length≤cs.length+k
 | 0,_=>by simp [oneL]
 |k+1,h=>by
  obtain ⟨x,hx⟩:=some_of_lt (l:=l) (k:=k) (by omega);have ih:=oneL_len (fin:=fin) (at_:=at_) (cs:=cs) (l:=l) k (by omega);have h2:=cut_len (p:=x.spot) (at_:=at_) (oneL fin at_ cs (l.take k));rw [oneL_next hx,oneP,List.length_append];have h3:(if x.zone.sets.isEmpty then ([]:List Copy) else [⟨x.host,at_,fin,x.zone⟩]).length≤1:=by split <;> simp
  omega
theorem rone35_p (h:History) (s:Step) (hl:h.copies.length+s.stage.puts.length≤1000000):PCalls E 117 [h.enc,s.enc] (· = ({ h with copies:=oneL h.fin s.time h.copies s.stage.puts }:History).enc):=by
 obtain ⟨hosts,copies,anchor,hints,drift,fin⟩:=h;obtain ⟨time,⟨l⟩⟩:=s;simp only at hl;have hol:=oneL_len (fin:=fin) (at_:=time) (cs:=copies) (l:=l);show PCalls E _ [DV.agg [.sl (hosts.map Host.enc),.sl (copies.map Copy.enc),.str anchor.name,.int .i64 anchor.type,.int .i64 anchor.life,.sl (anchor.data.map Datum.enc),.sl (hints.map (.int .i64)),.int .i64 drift,.int .i64 fin],DV.agg [.int .i64 time,.sl (l.map Placed.enc)]] (· = History.enc ⟨hosts,oneL fin time copies l,anchor,hints,drift,fin⟩);refine eP Tryz.func117 ?_;refine AWL.loop (κ:=Nat) (rg 5 70) (fun k=>[(5,.d (.int .i64 k))]) (fun k=>[(0,.cells [.d (.sl (hosts.map Host.enc)),.d (.sl ((oneL fin time copies (l.take k)).map Copy.enc)),.d (.str anchor.name),.d (.int .i64 anchor.type),.d (.int .i64 anchor.life),.d (.sl (anchor.data.map Datum.enc)),.d (.sl (hints.map (.int .i64))),.d (.int .i64 drift),.d (.int .i64 fin)])]) (fun k=>k≤l.length) (fun k=>l.length - k) 0 (Nat.zero_le _) ?_ ?_
 ·(conv=>whnf);repeat (first | exact trivial | (refine sI ?_; conv=>whnf))
  refine And.intro rfl ?_;(conv=>whnf);repeat (first | exact trivial | (refine sI ?_; conv=>whnf))
 intro k hk IH;refine AWL.head E_ok Tryz.func117 2000 ?_;(conv=>whnf);refine caseB_split (fun h5=>?_) (fun h5=>?_)
 ·have hlt:k<l.length:=by simpa using h5
  obtain ⟨x,hx⟩:=some_of_lt hlt;have hok:=hol k hk;have hnext:=oneL_next (fin:=fin) (at_:=time) (cs:=copies) hx;generalize oneL fin time copies (l.take k)=C at *;refine gO Tryz.func117 ?_;refine elemP_at (e:=x.enc) (at_map hx) rfl ?_;refine gO Tryz.func117 ?_;refine AWL.adopt 7 (85,5) (by decide) rfl ?_;(conv=>whnf);refine AWL.loop (κ:=Nat) ([7,8,9]++rg 24 34) (fun j=>[(8,.d (.int .i64 j)),(7,.own 4 1)]) (fun j=>[(4,.arr 1 (85,5) ((cutL x.spot time (C.take j)).map Copy.enc))]) (fun j=>j≤C.length) (fun j=>C.length - j) 0 (Nat.zero_le _) ?_ ?_
  ·(conv=>whnf);repeat (first | exact trivial | (refine sI ?_; conv=>whnf))
   refine And.intro rfl ?_;(conv=>whnf);repeat (first | exact trivial | (refine sI ?_; conv=>whnf))
  intro j hj JH;refine AWL.head E_ok Tryz.func117 2000 ?_;(conv=>whnf);refine caseB_split (fun h6=>?_) (fun h6=>?_)
  ·have hjlt:j<C.length:=by simpa using h6
   obtain ⟨c,hc⟩:=some_of_lt hjlt;have hcn:=cut_next (p:=x.spot) (at_:=time) hc;have hl1:=cut_len (p:=x.spot) (at_:=time) (C.take j);have hl2:(C.take j).length≤C.length:=by simp; omega
   refine gO Tryz.func117 ?_;refine elemP_at (e:=c.enc) (at_map hc) rfl ?_;refine gO Tryz.func117 ?_;refine callP_eq (rsameP_p x ⟨c.host,c.zone⟩) ?_;refine gO Tryz.func117 ?_;by_cases hm:x.spot=c.spot
   ·have hcut:cutC x.spot time c={ c with upto:=min c.upto time }:=by rw [cutC,if_pos hm.symm]
    refine caseB_yes (decide_eq_true hm) ?_;refine gO Tryz.func117 ?_;refine AWL.minK rfl rfl (ev_at rfl) (ev_at rfl) ?_;(conv=>whnf);refine gO Tryz.func117 ?_;refine caseB_split (fun h7=>?_) (fun h7=>?_)
    ·have e1:cut1 x.spot time c=[{ c with upto:=min c.upto time }]:=by rw [cut1,hcut,if_pos (of_decide_eq_true h7)]
     refine gO Tryz.func117 ?_;refine need_intro ⟨by simp; omega,by simp [DV.cells]⟩ ?_;refine gO Tryz.func117 ?_;refine AWL.back (JH (j+1) (by omega) (by omega)) ?_;rw [hcn,e1];(conv=>whnf);repeat (first | exact trivial | (refine sI ?_; conv=>whnf))
     refine And.intro (by simp) ?_;(conv=>whnf);repeat (first | exact trivial | (refine sI ?_; conv=>whnf))
    ·have e1:cut1 x.spot time c=[]:=by rw [cut1,hcut,if_neg (of_decide_eq_false h7)]
     refine gO Tryz.func117 ?_;refine AWL.back (JH (j+1) (by omega) (by omega)) ?_;rw [hcn,e1,List.append_nil];(conv=>whnf);repeat (first | exact trivial | (refine sI ?_; conv=>whnf))
   ·have hcut:cutC x.spot time c=c:=by rw [cutC,if_neg (fun e=>hm e.symm)]
    refine caseB_no (decide_eq_false hm) ?_;refine gO Tryz.func117 ?_;refine caseB_split (fun h7=>?_) (fun h7=>?_)
    ·have e1:cut1 x.spot time c=[c]:=by rw [cut1,hcut,if_pos (of_decide_eq_true h7)]
     refine gO Tryz.func117 ?_;refine need_intro ⟨by simp; omega,by simp [DV.cells]⟩ ?_;refine gO Tryz.func117 ?_;refine AWL.back (JH (j+1) (by omega) (by omega)) ?_;rw [hcn,e1];(conv=>whnf);repeat (first | exact trivial | (refine sI ?_; conv=>whnf))
     refine And.intro (by simp) ?_;(conv=>whnf);repeat (first | exact trivial | (refine sI ?_; conv=>whnf))
    ·have e1:cut1 x.spot time c=[]:=by rw [cut1,hcut,if_neg (of_decide_eq_false h7)]
     refine gO Tryz.func117 ?_;refine AWL.back (JH (j+1) (by omega) (by omega)) ?_;rw [hcn,e1,List.append_nil];(conv=>whnf);repeat (first | exact trivial | (refine sI ?_; conv=>whnf))
  ·have hge:C.length≤j:=by simpa using h6
   rw [List.take_of_length_le hge];refine gO Tryz.func117 ?_
   with_reducible refine callP_eq (rstop_p x) ?_
   refine gO Tryz.func117 ?_;have hl1:=cut_len (p:=x.spot) (at_:=time) C;cases hst:x.zone.sets.isEmpty
   ·have e2:oneP fin time C x=cutL x.spot time C++[⟨x.host,time,fin,x.zone⟩]:=by rw [oneP,hst]; rfl
    refine caseB_yes rfl ?_;refine gO Tryz.func117 ?_;refine need_intro ⟨by simp; omega,by simp [DV.cells]⟩ ?_;refine gO Tryz.func117 ?_;refine AWL.freeze 4 ?_;(conv=>whnf);refine AWL.back (IH (k+1) (by omega) (by omega)) ?_;rw [hnext,e2];(conv=>whnf);repeat (first | exact trivial | (refine sI ?_; conv=>whnf))
    refine And.intro (by simp) ?_;(conv=>whnf);repeat (first | exact trivial | (refine sI ?_; conv=>whnf))
   ·have e2:oneP fin time C x=cutL x.spot time C:=by rw [oneP,hst]; simp
    refine caseB_no rfl ?_;refine gO Tryz.func117 ?_;refine AWL.freeze 4 ?_;(conv=>whnf);refine AWL.back (IH (k+1) (by omega) (by omega)) ?_;rw [hnext,e2];(conv=>whnf);repeat (first | exact trivial | (refine sI ?_; conv=>whnf))
 ·have hge:l.length≤k:=by simpa using h5
  rw [List.take_of_length_le hge];refine gO Tryz.func117 ?_
  with_reducible rfl
end Go.Proofs.YtnlkbbboajcoeaaGreatDoor.P
end
section
namespace Go.Proofs.YtnlkbbboajcoeaaGreatDoor.P
open Go Go.Eng
set_option maxRecDepth 100000
set_option maxHeartbeats 4000000
def placedOf (l:List Copy):List Placed:=l.map fun c=>⟨c.host,c.zone⟩
theorem rplaced35_p (h:History) (hl:h.copies.length≤1000000):PCalls E 118 [h.enc] (· = .sl ((placedOf h.copies).map Placed.enc)):=by
 obtain ⟨hosts,copies,anchor,hints,drift,fin⟩:=h;simp only at hl;show PCalls E _ [DV.agg [.sl (hosts.map Host.enc),.sl (copies.map Copy.enc),.str anchor.name,.int .i64 anchor.type,.int .i64 anchor.life,.sl (anchor.data.map Datum.enc),.sl (hints.map (.int .i64)),.int .i64 drift,.int .i64 fin]] _;refine eP Tryz.func118 ?_;refine AWL.adopt 3 (81,3) (by decide) rfl ?_;(conv=>whnf);refine AWL.loop (κ:=Nat) (rg 3 25) (fun k=>[(4,.d (.int .i64 k)),(3,.own 1 1)]) (fun k=>[(1,.arr 1 (81,3) ((placedOf (copies.take k)).map Placed.enc))]) (fun k=>k≤copies.length) (fun k=>copies.length - k) 0 (Nat.zero_le _) ?_ ?_
 ·(conv=>whnf);repeat (first | exact trivial | (refine sI ?_; conv=>whnf))
  refine And.intro rfl ?_;(conv=>whnf);repeat (first | exact trivial | (refine sI ?_; conv=>whnf))
 intro k hk IH;refine AWL.head E_ok Tryz.func118 2000 ?_;(conv=>whnf);refine caseB_split (fun h5=>?_) (fun h5=>?_)
 ·have hlt:k<copies.length:=by simpa using h5
  obtain ⟨c,hc⟩:=some_of_lt hlt;have hnx:placedOf (copies.take (k+1))=placedOf (copies.take k)++[⟨c.host,c.zone⟩]:=by rw [take_next hc,placedOf,List.map_append]; rfl
  have hpl:(placedOf (copies.take k)).length≤copies.length:=by simp [placedOf]; omega
  refine gO Tryz.func118 ?_;refine AWL.draw E_ok E_mixed 15 2000 (by kernel_rfl) ?_;(conv=>whnf);refine elemP_at (e:=c.enc) (at_map hc) rfl ?_;refine gD ?_;refine elemP_at (e:=c.enc) (at_map hc) rfl ?_;refine gD ?_;refine gS ?_;refine need_intro ⟨by simp; omega,by simp [DV.cells]⟩ ?_;refine gS ?_;refine gO Tryz.func118 ?_;refine AWL.back (IH (k+1) (by omega) (by omega)) ?_;rw [hnx];(conv=>whnf);repeat (first | exact trivial | (refine sI ?_; conv=>whnf))
  refine And.intro (by simp) ?_;(conv=>whnf);repeat (first | exact trivial | (refine sI ?_; conv=>whnf))
 ·have hge:copies.length≤k:=by simpa using h5
  rw [List.take_of_length_le hge];refine gO Tryz.func118 ?_
  with_reducible rfl
theorem rapexes16_p (l:List Placed) (hl:l.length≤1000000):PCalls E 110 [.sl (l.map Placed.enc)] (· = .sl ((nub [] (l.map (·.zone.apex))).map .str)):=by
 refine eP Tryz.func110 ?_;refine AWL.adopt 3 (9,1) (by decide) rfl ?_;(conv=>whnf);refine AWL.loop (κ:=Nat) (rg 3 41) (fun k=>[(4,.d (.int .i64 k)),(3,.own 0 1)]) (fun k=>[(0,.arr 1 (9,1) ((nub [] ((l.map (·.zone.apex)).take k)).map .str))]) (fun k=>k≤l.length) (fun k=>l.length - k) 0 (Nat.zero_le _) ?_ ?_
 ·(conv=>whnf);repeat (first | exact trivial | (refine sI ?_; conv=>whnf))
  refine And.intro rfl ?_;(conv=>whnf);repeat (first | exact trivial | (refine sI ?_; conv=>whnf))
 intro k hk IH;refine AWL.head E_ok Tryz.func110 2000 ?_;(conv=>whnf);refine caseB_split (fun h5=>?_) (fun h5=>?_)
 ·have hlt:k<l.length:=by simpa using h5
  obtain ⟨c,hc⟩:=some_of_lt hlt;have hT1:(l.map (·.zone.apex))[k]? = some c.zone.apex:=by simp [hc]
  have hnx:=nub_next hT1;have hln:=nub_len_le (l:=(l.map (·.zone.apex)).take k) (acc:=[]);have hmm:c.zone.apex∈nub [] ((l.map (·.zone.apex)).take k)↔c.zone.apex∈(l.map (·.zone.apex)).take k:=by rw [nub_mem]; simp
  rw [List.length_take,List.length_map,List.length_nil] at hln;generalize nub [] ((l.map (·.zone.apex)).take k)=C at *;refine gO Tryz.func110 ?_;refine AWL.loop (κ:=Nat) ([5,6]++rg 13 20) (fun j=>[(6,.d (.int .i64 j)),(5,.d (.bool (decide (c.zone.apex∈C.take j))))]) (fun j=>[]) (fun j=>j≤C.length) (fun j=>C.length - j) 0 (Nat.zero_le _) ?_ ?_
  ·(conv=>whnf);repeat (first | exact trivial | (refine sI ?_; conv=>whnf))
   refine And.intro (by simp) ?_;(conv=>whnf);repeat (first | exact trivial | (refine sI ?_; conv=>whnf))
  intro j hj JH;refine AWL.head E_ok Tryz.func110 2000 ?_;(conv=>whnf);refine caseB_split (fun h6=>?_) (fun h6=>?_)
  ·have hjlt:j<C.length:=by simpa using h6
   obtain ⟨t,ht⟩:=some_of_lt hjlt;have hb:0≤(j:Int)∧(j:Int)<((C.map DV.str).length:Int):=⟨by omega,by simp; omega⟩;have hmem:(c.zone.apex∈C.take (j+1))↔(c.zone.apex∈C.take j∨t=c.zone.apex):=by rw [take_next ht,List.mem_append]; simp [eq_comm]
   refine gO Tryz.func110 ?_;refine AWL.draw E_ok E_mixed 15 2000 (by kernel_rfl) ?_;(conv=>whnf);by_cases hm:c.zone.apex∈C.take j
   ·refine caseB_yes (decide_eq_true hm) ?_;have e1:decide (c.zone.apex∈C.take (j+1))=true:=by simp [hmem,hm]
    refine gD ?_;refine gS ?_;refine gO Tryz.func110 ?_;refine AWL.back (JH (j+1) (by omega) (by omega)) ?_;rw [e1];(conv=>whnf);repeat (first | exact trivial | (refine sI ?_; conv=>whnf))
   ·refine caseB_no (decide_eq_false hm) ?_;have e1:decide (c.zone.apex∈C.take (j+1))=(t==c.zone.apex):=by rw [Bool.eq_iff_iff]; simp [hmem,hm]
    refine gD ?_;refine need_intro hb ?_;refine gD ?_;refine elemP_at (e := .str t) (at_map ht) rfl ?_;refine gD ?_;refine elemP_at (e:=c.enc) (at_map hc) rfl ?_;refine gD ?_;refine gS ?_;refine gO Tryz.func110 ?_;refine AWL.back (JH (j+1) (by omega) (by omega)) ?_;rw [e1];(conv=>whnf);repeat (first | exact trivial | (refine sI ?_; conv=>whnf))
  ·have hge:C.length≤j:=by simpa using h6
   rw [List.take_of_length_le hge];refine gO Tryz.func110 ?_;by_cases hm:c.zone.apex∈C
   ·refine caseB_no (by simp [hm]) ?_;refine gO Tryz.func110 ?_;refine AWL.back (IH (k+1) (by omega) (by omega)) ?_;rw [hnx,if_pos (hmm.1 hm)];(conv=>whnf);repeat (first | exact trivial | (refine sI ?_; conv=>whnf))
   ·refine caseB_yes (by simp [hm]) ?_;refine gO Tryz.func110 ?_;refine elemP_at (e:=c.enc) (at_map hc) rfl ?_;refine gO Tryz.func110 ?_;refine need_intro ⟨by simp; omega,by simp [DV.cells]⟩ ?_;refine gO Tryz.func110 ?_;refine AWL.back (IH (k+1) (by omega) (by omega)) ?_;rw [hnx,if_neg (fun e=>hm (hmm.2 e))];(conv=>whnf);repeat (first | exact trivial | (refine sI ?_; conv=>whnf))
    refine And.intro (by simp) ?_;(conv=>whnf);repeat (first | exact trivial | (refine sI ?_; conv=>whnf))
 ·have hge:l.length≤k:=by simpa using h5
  rw [List.take_of_length_le (by simpa using hge)];refine gO Tryz.func110 ?_
  with_reducible rfl
end Go.Proofs.YtnlkbbboajcoeaaGreatDoor.P
end
section
namespace Go.Proofs.YtnlkbbboajcoeaaGreatDoor.P
open Go Go.Eng
set_option maxRecDepth 100000
set_option maxHeartbeats 4000000
def runR (fin:Int) (cs:List Copy) (l:List Step):List Copy:=l.foldl (fun cs s=>oneL fin s.time cs s.stage.puts) cs
def Some1 (cs:List Copy):Prop:=∀ c∈cs,c.frm<c.upto
theorem stay_cut1 {p:Spot} {ss:List Spot} {at_:Int} {c:Copy} (h:c.frm<c.upto):stayL ss at_ (cut1 p at_ c)=stay1 (p::ss) at_ c:=by
 by_cases hp:c.spot=p
 ·have e:cutC p at_ c={ c with upto:=min c.upto at_ }:=by rw [cutC,if_pos hp]
  by_cases hf:c.frm≥at_
  ·have e2:¬ c.frm<min c.upto at_:=by omega
   rw [cut1,e,if_neg e2,stay1,if_pos (by rw [hp]; exact List.mem_cons_self ..),if_pos hf];rfl
  ·have e2:c.frm<min c.upto at_:=by omega
   rw [cut1,e,if_pos e2];have e3:stay1 (p::ss) at_ c=[{ c with upto:=min c.upto at_ }]:=by rw [stay1,if_pos (by rw [hp]; exact List.mem_cons_self ..),if_neg hf]
   rw [e3];simp only [stayL,List.flatMap_cons,List.flatMap_nil,List.append_nil];unfold stay1;split
   ·simp only;have:min (min c.upto at_) at_=min c.upto at_:=by omega
    rw [this]
   ·rfl
 ·have e:cutC p at_ c=c:=by rw [cutC,if_neg hp]
  rw [cut1,e,if_pos h];simp only [stayL,List.flatMap_cons,List.flatMap_nil,List.append_nil];unfold stay1;simp [hp]
theorem stay_cut {p:Spot} {ss:List Spot} {at_:Int}:∀ {cs:List Copy},Some1 cs→stayL ss at_ (cutL p at_ cs)=stayL (p::ss) at_ cs
 | [],_=>rfl
 |c::cs,h=>by
  have ih:=stay_cut (p:=p) (ss:=ss) (at_:=at_) (cs:=cs) (fun x hx=>h x (List.mem_cons_of_mem _ hx));have h1:=stay_cut1 (p:=p) (ss:=ss) (at_:=at_) (h c (List.mem_cons_self ..));show stayL ss at_ (cut1 p at_ c++cutL p at_ cs)=stay1 (p::ss) at_ c++stayL (p::ss) at_ cs;rw [← ih,← h1];simp [stayL]
theorem cut_some {p:Spot} {at_:Int} {cs:List Copy}:Some1 (cutL p at_ cs):=fun c hc=>by
 obtain ⟨d,_,e⟩:=List.mem_flatMap.1 hc;unfold cut1 at e;split at e
 ·rename_i q;simp at e;subst e;exact q
 ·simp at e
theorem cut_none {p:Spot} {at_:Int}:∀ {N:List Copy},Some1 N→(∀ c∈N,c.spot≠p)→cutL p at_ N=N
 | [],_,_=>rfl
 |c::N,h,hp=>by
  have ih:=cut_none (p:=p) (at_:=at_) (N:=N) (fun x hx=>h x (List.mem_cons_of_mem _ hx)) (fun x hx=>hp x (List.mem_cons_of_mem _ hx));have e:cutC p at_ c=c:=by rw [cutC,if_neg (hp c (List.mem_cons_self ..))]
  show cut1 p at_ c++cutL p at_ N=c::N;rw [ih,cut1,e,if_pos (h c (List.mem_cons_self ..))];rfl
theorem stay_nil {at_:Int}:∀ {cs:List Copy},stayL [] at_ cs=cs
 | []=>rfl
 |c::cs=>by
  have ih:=stay_nil (at_:=at_) (cs:=cs);show stay1 [] at_ c++stayL [] at_ cs=c::cs;rw [ih,stay1];simp
theorem one_all {fin at_:Int} (hat:at_<fin):∀ {l:List Placed} {cs N:List Copy},Some1 cs→Some1 N→(∀ c∈N,∀ p∈l,c.spot≠p.spot)→(l.map Placed.spot).Nodup→(∀ p∈l,stopB p.zone=p.zone.sets.isEmpty) →
  oneL fin at_ (cs++N) l=stayL (l.map Placed.spot) at_ cs++(N++newC fin at_ l)
 | [],cs,N,h1,h2,h3,h4,h5=>by
  show cs++N=stayL [] at_ cs++(N++[]);rw [stay_nil,List.append_nil]
 |p::l,cs,N,h1,h2,h3,h4,h5=>by
  rw [List.map_cons,List.nodup_cons] at h4;have hN:=cut_none (p:=p.spot) (at_:=at_) h2 (fun c hc=>h3 c hc p (List.mem_cons_self ..));obtain ⟨W,hW⟩:∃ W:List Copy,W=if p.zone.sets.isEmpty then [] else [⟨p.host,at_,fin,p.zone⟩]:=⟨_,rfl⟩;have hWs:∀ c∈W,c.spot=p.spot∧c.frm<c.upto:=fun c hc=>by
   rw [hW] at hc;split at hc
   ·simp at hc
   ·simp at hc;subst hc;exact ⟨rfl,hat⟩
  have e1:oneP fin at_ (cs++N) p=cutL p.spot at_ cs++(N++W):=by
   rw [oneP,← hW,cutL,List.flatMap_append];show cutL p.spot at_ cs++cutL p.spot at_ N++W=_;rw [hN,List.append_assoc]
  have e2:newC fin at_ (p::l)=W++newC fin at_ l:=by
   rw [hW,← h5 p (List.mem_cons_self ..)];cases hs:stopB p.zone <;> simp [newC,hs]
  show oneL fin at_ (oneP fin at_ (cs++N) p) l=_
  rw [e1,one_all hat (cut_some) (fun c hc=>by
   rcases List.mem_append.1 hc with hc | hc
   ·exact h2 c hc
   ·exact (hWs c hc).2) (fun c hc q hq=>by
   rcases List.mem_append.1 hc with hc | hc
   ·exact h3 c hc q (List.mem_cons_of_mem _ hq)
   ·rw [(hWs c hc).1]
    exact fun e=>h4.1 (e ▸ List.mem_map_of_mem hq)) h4.2 (fun q hq=>h5 q (List.mem_cons_of_mem _ hq)),stay_cut h1,e2,List.map_cons,List.append_assoc]
theorem stay_some {ended:List Spot} {at_:Int} {cs:List Copy} (h:Some1 cs):Some1 (stayL ended at_ cs):=fun c hc=>by
 obtain ⟨d,hd,e⟩:=List.mem_flatMap.1 hc;have:=h d hd;unfold stay1 at e;split at e
 ·split at e
  ·simp at e
  ·simp at e;subst e;simp only;omega
 ·simp at e;subst e;exact this
theorem run_eq {fin:Int}:∀ {l:List Step} {cs:List Copy},Some1 cs→(∀ s∈l,s.time<fin∧(s.stage.puts.map Placed.spot).Nodup∧∀ p∈s.stage.puts,stopB p.zone=p.zone.sets.isEmpty)→runR fin cs l=runS fin cs l∧Some1 (runS fin cs l)
 | [],cs,h,_=>⟨rfl,h⟩
 |s::l,cs,h,hs=>by
  obtain ⟨q1,q2,q3⟩:=hs s (List.mem_cons_self ..);have e:=one_all (fin:=fin) q1 (l:=s.stage.puts) (cs:=cs) (N:=[]) h (fun c hc=>by simp at hc) (fun c hc=>by simp at hc) q2 q3;rw [List.append_nil,List.nil_append] at e;have hsome:Some1 (stepTo fin cs s):=fun c hc=>by
   rcases List.mem_append.1 hc with hc | hc
   ·exact stay_some h c hc
   ·obtain ⟨p,_,e⟩:=List.mem_map.1 hc;subst e;exact q1
  have ih:=run_eq (fin:=fin) (l:=l) hsome (fun t ht=>hs t (List.mem_cons_of_mem _ ht));refine ⟨?_,ih.2⟩;show runR fin (oneL fin s.time cs s.stage.puts) l=runS fin (stepTo fin cs s) l;rw [e];exact ih.1
theorem validS_run {h:History} {l:List Step} (hv:validS h l=true):runR h.fin h.copies l=runS h.fin h.copies l:=by
 obtain ⟨z1,z2⟩:=validS_zones hv;simp only [validS,histB,stepsB,Bool.and_eq_true,decide_eq_true_eq] at hv;obtain ⟨⟨⟨⟨⟨h1,h2⟩,h3⟩,h4⟩,h5⟩,h6,h7⟩:=hv;refine (run_eq (fun c hc=>?_) (fun s hs=>?_)).1
 ·have:=List.all_eq_true.1 h3 c hc;simp only [copyOK,Bool.and_eq_true,decide_eq_true_eq] at this;exact this.1.1.2
 ·have:=chain_mem h7 s hs;simp only [stepOK,stageB,Bool.and_eq_true,decide_eq_true_eq] at this;refine ⟨this.1.2,this.2.2,fun p hp=>?_⟩;cases hn:stopB p.zone
  ·have:=zoneR_sets (z2 s hs p hp hn);cases hz:p.zone.sets with
   |nil=>exact absurd hz this
   |cons _ _=>rfl
  ·simp only [stopB,Bool.and_eq_true] at hn;exact hn.1.1.symm
end Go.Proofs.YtnlkbbboajcoeaaGreatDoor.P
end
section
namespace Go.Proofs.YtnlkbbboajcoeaaGreatDoor.P
open Go Go.Eng
set_option maxRecDepth 100000
set_option maxHeartbeats 4000000
theorem runR_next {fin:Int} {cs:List Copy} {l:List Step} {k:Nat} {x:Step} (h:l[k]? = some x):runR fin cs (l.take (k+1))=oneL fin x.time (runR fin cs (l.take k)) x.stage.puts:=by
 rw [take_next h,runR,List.foldl_append]; rfl
theorem runR_len {fin:Int} {cs:List Copy} {l:List Step} (hl:∀ s∈l,s.stage.puts.length≤500):∀ k,k≤l.length→(runR fin cs (l.take k)).length≤cs.length+500*k
 | 0,_=>by simp [runR]
 |k+1,h=>by
  obtain ⟨x,hx⟩:=some_of_lt (l:=l) (k:=k) (by omega);have ih:=runR_len (fin:=fin) (cs:=cs) hl k (by omega);have h1:=hl x (List.mem_of_getElem? hx);have h2:=oneL_len (fin:=fin) (at_:=x.time) (cs:=runR fin cs (l.take k)) (l:=x.stage.puts) x.stage.puts.length (Nat.le_refl _);rw [List.take_length] at h2;rw [runR_next hx];omega
theorem placed_apex (l:List Copy):(placedOf l).map (·.zone.apex)=l.map (·.zone.apex):=by simp [placedOf]
theorem rapply_raw (h:History) (l:List Step) (hf:h.Fits) (hk1:h.copies.length≤1000000) (hk2:h.hints.length≤1000000) (hs:Steps.Fits l):PCalls E 70 [h.enc,.sl (l.map Step.enc)] (· = applyD h l):=by
 have hv0:=rvalidS_p h l hf hk1 hk2 hs;cases hv:validS h l
 ·have e1:applyN h l=1:=by simp [applyN,hv]
  have e2:applyD h l = .tup [.agg [.nilsl,.nilsl,.str [],.int .i64 0,.int .i64 0,.nilsl,.nilsl,.int .i64 0,.int .i64 0],.int .i64 1]:=by simp [applyD,e1]
  rw [e2];rw [hv] at hv0;obtain ⟨hosts,copies,anchor,hints,drift,fin⟩:=h;show PCalls E _ [DV.agg [.sl (hosts.map Host.enc),.sl (copies.map Copy.enc),.str anchor.name,.int .i64 anchor.type,.int .i64 anchor.life,.sl (anchor.data.map Datum.enc),.sl (hints.map (.int .i64)),.int .i64 drift,.int .i64 fin],_] _;refine eP Tryz.func70 ?_
  with_reducible refine callP_eq (hv0) ?_
  refine gO Tryz.func70 ?_;refine caseB_true ?_;refine gO Tryz.func70 ?_
  with_reducible rfl
 ·rw [hv] at hv0;have hrun:=validS_run hv;obtain ⟨hosts,copies,anchor,hints,drift,fin⟩:=h;obtain ⟨hcop,hput,hll,hsh,hdat,hho,hhi⟩:=valid_lens hv;simp only at hcop hput hll hsh hdat hho hhi hrun;have hrl:=runR_len (fin:=fin) (cs:=copies) hput;show PCalls E _ [DV.agg [.sl (hosts.map Host.enc),.sl (copies.map Copy.enc),.str anchor.name,.int .i64 anchor.type,.int .i64 anchor.life,.sl (anchor.data.map Datum.enc),.sl (hints.map (.int .i64)),.int .i64 drift,.int .i64 fin],_] _;refine eP Tryz.func70 ?_
  with_reducible refine callP_eq (hv0) ?_
  refine gO Tryz.func70 ?_;refine caseB_false ?_;refine gO Tryz.func70 ?_;refine AWL.loop (κ:=Nat) ([6]++rg 12 12) (fun k=>[(6,.d (.int .i64 k))]) (fun k=>[(0,.cells [.d (.sl (hosts.map Host.enc)),.d (.sl ((runR fin copies (l.take k)).map Copy.enc)),.d (.str anchor.name),.d (.int .i64 anchor.type),.d (.int .i64 anchor.life),.d (.sl (anchor.data.map Datum.enc)),.d (.sl (hints.map (.int .i64))),.d (.int .i64 drift),.d (.int .i64 fin)])]) (fun k=>k≤l.length) (fun k=>l.length - k) 0 (Nat.zero_le _) ?_ ?_
  ·(conv=>whnf);repeat (first | exact trivial | (refine sI ?_; conv=>whnf))
   refine And.intro rfl ?_;(conv=>whnf);repeat (first | exact trivial | (refine sI ?_; conv=>whnf))
  intro k hk IH;refine AWL.head E_ok Tryz.func70 2000 ?_;(conv=>whnf);refine caseB_split (fun h5=>?_) (fun h5=>?_)
  ·have hlt:k<l.length:=by simpa using h5
   obtain ⟨x,hx⟩:=some_of_lt hlt;have hnext:=runR_next (fin:=fin) (cs:=copies) hx;have hlk:=hrl k hk;have hxp:=hput x (List.mem_of_getElem? hx);have hone:PCalls E 117 [DV.agg [.sl (hosts.map Host.enc),.sl ((runR fin copies (l.take k)).map Copy.enc),.str anchor.name,.int .i64 anchor.type,.int .i64 anchor.life,.sl (anchor.data.map Datum.enc),.sl (hints.map (.int .i64)),.int .i64 drift,.int .i64 fin],x.enc] (· = DV.agg [.sl (hosts.map Host.enc),.sl ((oneL fin x.time (runR fin copies (l.take k)) x.stage.puts).map Copy.enc),.str anchor.name,.int .i64 anchor.type,.int .i64 anchor.life,.sl (anchor.data.map Datum.enc),.sl (hints.map (.int .i64)),.int .i64 drift,.int .i64 fin]):=rone35_p ⟨hosts,runR fin copies (l.take k),anchor,hints,drift,fin⟩ x (by simp only; omega);refine gO Tryz.func70 ?_;refine AWL.draw E_ok E_mixed 6 2000 (by kernel_rfl) ?_;(conv=>whnf);refine elemP_at (e:=x.enc) (at_map hx) rfl ?_;refine gD ?_;refine callP1_eq hone ?_;refine gD ?_;refine gS ?_;refine gO Tryz.func70 ?_;refine AWL.back (IH (k+1) (by omega) (by omega)) ?_;rw [hnext];(conv=>whnf);repeat (first | exact trivial | (refine sI ?_; conv=>whnf))
  ·have hge:l.length≤k:=by simpa using h5
   rw [List.take_of_length_le hge];have hll2:(runS fin copies l).length≤1000000:=by have:=hrl l.length (Nat.le_refl _); rw [List.take_length,hrun] at this; omega
   rw [hrun];have hpl:PCalls E 118 [DV.agg [.sl (hosts.map Host.enc),.sl ((runS fin copies l).map Copy.enc),.str anchor.name,.int .i64 anchor.type,.int .i64 anchor.life,.sl (anchor.data.map Datum.enc),.sl (hints.map (.int .i64)),.int .i64 drift,.int .i64 fin]] (· = .sl ((placedOf (runS fin copies l)).map Placed.enc)):=rplaced35_p ⟨hosts,runS fin copies l,anchor,hints,drift,fin⟩ hll2;have hap:=rapexes16_p (placedOf (runS fin copies l)) (by simpa [placedOf] using hll2);rw [placed_apex] at hap;refine gO Tryz.func70 ?_;refine caseB_split (fun h6=>?_) (fun h6=>?_)
   ·have h7:4000<(runS fin copies l).length:=by simp at h6; omega
    have hm:manyB (runS fin copies l)=true:=by simp [manyB,h7]
    have e1:applyN ⟨hosts,copies,anchor,hints,drift,fin⟩ l=2:=by simp [applyN,hv,hm]
    have e2:applyD ⟨hosts,copies,anchor,hints,drift,fin⟩ l = .tup [.agg [.nilsl,.nilsl,.str [],.int .i64 0,.int .i64 0,.nilsl,.nilsl,.int .i64 0,.int .i64 0],.int .i64 2]:=by simp [applyD,e1]
    rw [e2];refine gO Tryz.func70 ?_;refine caseB_true ?_;refine gO Tryz.func70 ?_
    with_reducible rfl
   ·have h7:¬ 4000<(runS fin copies l).length:=by simp at h6; omega
    refine gO Tryz.func70 ?_
    with_reducible refine callP_eq (hpl) ?_
    refine gO Tryz.func70 ?_
    with_reducible refine callP_eq (hap) ?_
    refine gO Tryz.func70 ?_;refine caseB_split (fun h8=>?_) (fun h8=>?_)
    ·have h9:500<apexN (runS fin copies l):=by rw [List.length_map] at h8; have:=of_decide_eq_true h8; unfold apexN; omega
     have hm:manyB (runS fin copies l)=true:=by simp [manyB,h9]
     have e1:applyN ⟨hosts,copies,anchor,hints,drift,fin⟩ l=2:=by simp [applyN,hv,hm]
     have e2:applyD ⟨hosts,copies,anchor,hints,drift,fin⟩ l = .tup [.agg [.nilsl,.nilsl,.str [],.int .i64 0,.int .i64 0,.nilsl,.nilsl,.int .i64 0,.int .i64 0],.int .i64 2]:=by simp [applyD,e1]
     rw [e2];refine gO Tryz.func70 ?_
     with_reducible rfl
    ·have h9:¬ 500<apexN (runS fin copies l):=by rw [List.length_map] at h8; have:=of_decide_eq_false h8; unfold apexN; omega
     have hm:manyB (runS fin copies l)=false:=by simp [manyB,h7,h9]
     have e1:applyN ⟨hosts,copies,anchor,hints,drift,fin⟩ l=0:=by simp [applyN,hv,hm]
     have e3:applyH ⟨hosts,copies,anchor,hints,drift,fin⟩ l=⟨hosts,runS fin copies l,anchor,hints,drift,fin⟩:=by simp [applyH,e1]
     have e2:applyD ⟨hosts,copies,anchor,hints,drift,fin⟩ l = .tup [DV.agg [.sl (hosts.map Host.enc),.sl ((runS fin copies l).map Copy.enc),.str anchor.name,.int .i64 anchor.type,.int .i64 anchor.life,.sl (anchor.data.map Datum.enc),.sl (hints.map (.int .i64)),.int .i64 drift,.int .i64 fin],.int .i64 0]:=by simp [applyD,e1,e3]
     rw [e2];refine gO Tryz.func70 ?_
     with_reducible rfl
theorem rapply_p (h:History) (l:List Step) (hf:h.Fits) (hk1:h.copies.length≤1000000) (hk2:h.hints.length≤1000000) (hs:Steps.Fits l):PCalls E 70 [h.enc,.sl (l.map Step.enc)] (· = .tup [(applyH h l).enc,.int .i64 (applyN h l)]):=by
 have H:=rapply_raw h l hf hk1 hk2 hs;by_cases h0:applyN h l=0
 ·refine H.mono fun r e=>?_;rw [e,applyD,if_pos h0,h0]
 ·refine PCalls.norm (H.mono fun r e=>?_);rw [e,applyD,if_neg h0,applyH,if_neg h0];rfl
end Go.Proofs.YtnlkbbboajcoeaaGreatDoor.P
end
section
namespace Go.Proofs.YtnlkbbboajcoeaaGreatDoor.P
open Go Go.Eng
set_option maxRecDepth 100000
set_option maxHeartbeats 4000000
theorem rsameStage_p (a b:Stage) (hl:a.puts.length≤1000000) (ha:∀ p∈a.puts,p.zone.Lens):PCalls E 37 [a.enc,b.enc] (· = .bool (decide (a=b))):=by
 obtain ⟨a⟩:=a;obtain ⟨b⟩:=b;simp only at hl ha;have hd:decide ((⟨a⟩:Stage)=⟨b⟩)=decide (a=b):=by simp
 rw [hd];show PCalls E _ [DV.agg [.sl (a.map Placed.enc)],DV.agg [.sl (b.map Placed.enc)]] _;refine eP Tryz.func37 ?_;refine caseB_split (fun h4=>?_) (fun h4=>?_)
 ·refine gO Tryz.func37 ?_;rw [decide_eq_false];rintro rfl;simp at h4
 ·simp only [bne_eq_false_iff_eq,List.length_map] at h4;have hlab:a.length=b.length:=by omega
  refine gO Tryz.func37 ?_;refine AWL.loop (κ:=Nat) ([4,5]++rg 13 36) (fun k=>[(5,.d (.int .i64 k))]) (fun _=>[]) (fun k=>k≤a.length∧a.take k=b.take k) (fun k=>a.length - k) 0 ⟨Nat.zero_le _,rfl⟩ ?_ ?_
  ·(conv=>whnf);repeat (first | exact trivial | (refine sI ?_; conv=>whnf))
  ·intro k hk IH;refine AWL.head E_ok Tryz.func37 2000 ?_;(conv=>whnf);refine caseB_split (fun h5=>?_) (fun h5=>?_)
   ·have hlt:k<a.length:=by simpa using h5
    obtain ⟨x,hx⟩:=some_of_lt hlt;obtain ⟨y,hy⟩:=some_of_lt (l:=b) (k:=k) (by omega);have hxl:=ha x (List.mem_of_getElem? hx);refine gO Tryz.func37 ?_;refine AWL.draw E_ok E_mixed 29 2000 (by kernel_rfl) ?_;(conv=>whnf);refine elemP_at (e:=x.enc) (at_map hx) rfl ?_;refine gD ?_;refine elemP_at (e:=y.enc) (at_map hy) rfl ?_;refine gD ?_;refine caseB_split (fun h6=>?_) (fun h6=>?_)
    ·have hne:x≠y:=by rintro rfl; simp at h6
     refine gD ?_;refine gS ?_;refine gO Tryz.func37 ?_;refine caseB_true ?_;refine gO Tryz.func37 ?_;rw [decide_eq_false (ne_of_at hx hy hne)]
    ·have he:x.host=y.host:=by simpa using h6
     refine gD ?_;refine elemP_at (e:=x.enc) (at_map hx) rfl ?_;refine gD ?_;refine elemP_at (e:=y.enc) (at_map hy) rfl ?_;refine gD ?_;refine callP1_eq (rsameZone_p x.zone y.zone hxl) ?_;refine gD ?_;refine gS ?_;refine gO Tryz.func37 ?_;by_cases hz:x.zone=y.zone
     ·have hxy:x=y:=by
       obtain ⟨x1,x2⟩:=x;obtain ⟨y1,y2⟩:=y;simp only at he hz;rw [he,hz]
      refine caseB_no (by simp [hz]) ?_;refine gO Tryz.func37 ?_;refine AWL.back (IH (k+1) ⟨by omega,takeEq_next hk.2 hx hy hxy⟩ (by omega)) ?_;(conv=>whnf);repeat (first | exact trivial | (refine sI ?_; conv=>whnf))
     ·refine caseB_yes (by simp [hz]) ?_;refine gO Tryz.func37 ?_;rw [decide_eq_false (ne_of_at hx hy (fun e=>hz (e ▸ rfl)))]
   ·have hge:k=a.length:=by simp at h5; omega
    refine gO Tryz.func37 ?_;rw [decide_eq_true (takeEq_all hk.2 (by omega) (by omega))]
theorem rsameSteps_p (a b:List Step) (hl:a.length≤1000000) (ha:∀ s∈a,s.stage.puts.length≤1000000∧∀ p∈s.stage.puts,p.zone.Lens):PCalls E 32 [.sl (a.map Step.enc),.sl (b.map Step.enc)] (· = .bool (decide (a=b))):=by
 refine eP Tryz.func32 ?_;refine caseB_split (fun h4=>?_) (fun h4=>?_)
 ·refine gO Tryz.func32 ?_;rw [decide_eq_false];rintro rfl;simp at h4
 ·simp only [bne_eq_false_iff_eq,List.length_map] at h4;have hlab:a.length=b.length:=by omega
  refine gO Tryz.func32 ?_;refine AWL.loop (κ:=Nat) ([4,5]++rg 11 31) (fun k=>[(5,.d (.int .i64 k))]) (fun _=>[]) (fun k=>k≤a.length∧a.take k=b.take k) (fun k=>a.length - k) 0 ⟨Nat.zero_le _,rfl⟩ ?_ ?_
  ·(conv=>whnf);repeat (first | exact trivial | (refine sI ?_; conv=>whnf))
  ·intro k hk IH;refine AWL.head E_ok Tryz.func32 2000 ?_;(conv=>whnf);refine caseB_split (fun h5=>?_) (fun h5=>?_)
   ·have hlt:k<a.length:=by simpa using h5
    obtain ⟨x,hx⟩:=some_of_lt hlt;obtain ⟨y,hy⟩:=some_of_lt (l:=b) (k:=k) (by omega);have hxl:=ha x (List.mem_of_getElem? hx);refine gO Tryz.func32 ?_;refine AWL.draw E_ok E_mixed 25 2000 (by kernel_rfl) ?_;(conv=>whnf);refine elemP_at (e:=x.enc) (at_map hx) rfl ?_;refine gD ?_;refine elemP_at (e:=y.enc) (at_map hy) rfl ?_;refine gD ?_;refine caseB_split (fun h6=>?_) (fun h6=>?_)
    ·have hne:x≠y:=by rintro rfl; simp at h6
     refine gD ?_;refine gS ?_;refine gO Tryz.func32 ?_;refine caseB_true ?_;refine gO Tryz.func32 ?_;rw [decide_eq_false (ne_of_at hx hy hne)]
    ·have he:x.time=y.time:=by simpa using h6
     refine gD ?_;refine elemP_at (e:=x.enc) (at_map hx) rfl ?_;refine gD ?_;refine elemP_at (e:=y.enc) (at_map hy) rfl ?_;refine gD ?_;refine callP1_eq (rsameStage_p x.stage y.stage hxl.1 hxl.2) ?_;refine gD ?_;refine gS ?_;refine gO Tryz.func32 ?_;by_cases hz:x.stage=y.stage
     ·have hxy:x=y:=by
       obtain ⟨x1,x2⟩:=x;obtain ⟨y1,y2⟩:=y;simp only at he hz;rw [he,hz]
      refine caseB_no (by simp [hz]) ?_;refine gO Tryz.func32 ?_;refine AWL.back (IH (k+1) ⟨by omega,takeEq_next hk.2 hx hy hxy⟩ (by omega)) ?_;(conv=>whnf);repeat (first | exact trivial | (refine sI ?_; conv=>whnf))
     ·refine caseB_yes (by simp [hz]) ?_;refine gO Tryz.func32 ?_;rw [decide_eq_false (ne_of_at hx hy (fun e=>hz (e ▸ rfl)))]
   ·have hge:k=a.length:=by simp at h5; omega
    refine gO Tryz.func32 ?_;rw [decide_eq_true (takeEq_all hk.2 (by omega) (by omega))]
end Go.Proofs.YtnlkbbboajcoeaaGreatDoor.P
end
section
namespace Go.Proofs.YtnlkbbboajcoeaaGreatDoor.P
open Go Go.Eng
set_option maxRecDepth 100000
set_option maxHeartbeats 4000000
theorem rhosts35_p (a b:List Host) (x y:RSet) (c d:List Int) (hl:a.length≤1000000) (hc:c.length≤1000000) (hx:x.data.length≤2147483648):PCalls E 72 [.agg [.sl (a.map Host.enc),.nilsl,.str x.name,.int .i64 x.type,.int .i64 x.life,.sl (x.data.map Datum.enc),.sl (c.map (.int .i64))],.agg [.sl (b.map Host.enc),.nilsl,.str y.name,.int .i64 y.type,.int .i64 y.life,.sl (y.data.map Datum.enc),.sl (d.map (.int .i64))]] (· = .bool (decide (a=b)&&decide (c=d)&&decide (x=y))):=by
 refine eP Tryz.func72 ?_;refine caseB_split (fun h4=>?_) (fun h4=>?_)
 ·have hne:a≠b:=by rintro rfl; simp at h4
  rw [decide_eq_false hne];refine gO Tryz.func72 ?_;refine caseB_true ?_;refine gO Tryz.func72 ?_;refine caseB_true ?_;refine gO Tryz.func72 ?_;simp
 ·have hab:a.length=b.length:=by simp only [bne_eq_false_iff_eq,List.length_map] at h4; omega
  refine gO Tryz.func72 ?_;refine caseB_split (fun h5=>?_) (fun h5=>?_)
  ·have hne:c≠d:=by rintro rfl; simp at h5
   rw [decide_eq_false hne];refine gO Tryz.func72 ?_;refine caseB_true ?_;refine gO Tryz.func72 ?_;simp
  ·have hcd:c.length=d.length:=by simp only [bne_eq_false_iff_eq,List.length_map] at h5; omega
   refine gO Tryz.func72 ?_
   with_reducible refine callP_eq (rsame_p x y hx) ?_
   refine gO Tryz.func72 ?_;by_cases hxy:x=y
   ·refine caseB_no (by simp [hxy]) ?_;rw [decide_eq_true hxy];refine gO Tryz.func72 ?_;refine AWL.loop (κ:=Nat) ([4,5]++rg 31 18) (fun k=>[(5,.d (.int .i64 k))]) (fun _=>[]) (fun k=>k≤a.length∧a.take k=b.take k) (fun k=>a.length - k) 0 ⟨Nat.zero_le _,rfl⟩ ?_ ?_
    ·(conv=>whnf);repeat (first | exact trivial | (refine sI ?_; conv=>whnf))
    ·intro k hk IH;refine AWL.head E_ok Tryz.func72 2000 ?_;(conv=>whnf);refine caseB_split (fun h6=>?_) (fun h6=>?_)
     ·have hlt:k<a.length:=by simpa using h6
      obtain ⟨u,hu⟩:=some_of_lt hlt;obtain ⟨w,hw⟩:=some_of_lt (l:=b) (k:=k) (by omega);refine gO Tryz.func72 ?_;refine AWL.draw E_ok E_mixed 11 2000 (by kernel_rfl) ?_;(conv=>whnf);refine elemP_at (e:=u.enc) (at_map hu) rfl ?_;refine gD ?_;refine elemP_at (e:=w.enc) (at_map hw) rfl ?_;refine gD ?_;refine gS ?_;refine gO Tryz.func72 ?_;refine caseB_split (fun h7=>?_) (fun h7=>?_)
      ·have hne:u≠w:=by rintro rfl; simp at h7
       refine gO Tryz.func72 ?_;rw [decide_eq_false (ne_of_at hu hw hne)];simp
      ·have he:u=w:=by
        obtain ⟨u1,u2,u3⟩:=u;obtain ⟨w1,w2,w3⟩:=w;simp at h7;simp [h7]
       refine gO Tryz.func72 ?_;refine AWL.back (IH (k+1) ⟨by omega,takeEq_next hk.2 hu hw he⟩ (by omega)) ?_;(conv=>whnf);repeat (first | exact trivial | (refine sI ?_; conv=>whnf))
     ·have hge:k=a.length:=by simp at h6; omega
      have heab:a=b:=takeEq_all hk.2 (by omega) (by omega);rw [decide_eq_true heab];refine gO Tryz.func72 ?_;refine AWL.loop (κ:=Nat) ([4,6]++rg 49 18) (fun k=>[(6,.d (.int .i64 k))]) (fun _=>[]) (fun k=>k≤c.length∧c.take k=d.take k) (fun k=>c.length - k) 0 ⟨Nat.zero_le _,rfl⟩ ?_ ?_
      ·(conv=>whnf);repeat (first | exact trivial | (refine sI ?_; conv=>whnf))
      ·intro k hk IH;refine AWL.head E_ok Tryz.func72 2000 ?_;(conv=>whnf);refine caseB_split (fun h6=>?_) (fun h6=>?_)
       ·have hlt:k<c.length:=by simpa using h6
        obtain ⟨u,hu⟩:=some_of_lt hlt;obtain ⟨w,hw⟩:=some_of_lt (l:=d) (k:=k) (by omega);refine gO Tryz.func72 ?_;refine AWL.draw E_ok E_mixed 11 2000 (by kernel_rfl) ?_;(conv=>whnf);refine elemP_at (e := .int .i64 u) (at_map hu) rfl ?_;refine gD ?_;refine elemP_at (e := .int .i64 w) (at_map hw) rfl ?_;refine gD ?_;refine gS ?_;refine gO Tryz.func72 ?_;refine caseB_split (fun h7=>?_) (fun h7=>?_)
        ·have hne:u≠w:=by rintro rfl; simp at h7
         refine gO Tryz.func72 ?_;rw [decide_eq_false (ne_of_at hu hw hne)];simp
        ·have he:u=w:=by simpa using h7
         refine gO Tryz.func72 ?_;refine AWL.back (IH (k+1) ⟨by omega,takeEq_next hk.2 hu hw he⟩ (by omega)) ?_;(conv=>whnf);repeat (first | exact trivial | (refine sI ?_; conv=>whnf))
       ·have hge:k=c.length:=by simp at h6; omega
        have hecd:c=d:=takeEq_all hk.2 (by omega) (by omega);refine gO Tryz.func72 ?_;simp [hecd]
   ·refine caseB_yes (by simp [hxy]) ?_;rw [decide_eq_false hxy];refine gO Tryz.func72 ?_;simp
end Go.Proofs.YtnlkbbboajcoeaaGreatDoor.P
end
section
namespace Go.Proofs.YtnlkbbboajcoeaaGreatDoor.P
open Go Go.Eng
set_option maxRecDepth 100000
set_option maxHeartbeats 4000000
structure History.Lens (h:History):Prop where
 hosts:h.hosts.length≤1000000
 copies:h.copies.length≤1000000
 hints:h.hints.length≤1000000
 anchor:h.anchor.data.length≤2147483648
 zones:∀ c∈h.copies,c.zone.Lens
theorem rsame35_p (h g:History) (hf:h.Lens):PCalls E 30 [h.enc,g.enc] (· = .bool (decide (h=g))):=by
 obtain ⟨a,b,x,c,dr,fi⟩:=h;obtain ⟨a2,b2,x2,c2,dr2,fi2⟩:=g;obtain ⟨q1,q2,q3,q4,q5⟩:=hf;simp only at q1 q2 q3 q4 q5;have hd:decide ((⟨a,b,x,c,dr,fi⟩:History)=⟨a2,b2,x2,c2,dr2,fi2⟩)=(decide (dr=dr2)&&decide (fi=fi2)&&(decide (a=a2)&&decide (c=c2)&&decide (x=x2))&&decide (b=b2)):=by
  rw [Bool.eq_iff_iff];simp;constructor
  ·rintro ⟨h1,h2,h3,h4,h5,h6⟩; exact ⟨⟨⟨h5,h6⟩,⟨h1,h4⟩,h3⟩,h2⟩
  ·rintro ⟨⟨⟨h5,h6⟩,⟨h1,h4⟩,h3⟩,h2⟩; exact ⟨h1,h2,h3,h4,h5,h6⟩
 rw [hd];show PCalls E _ [DV.agg [.sl (a.map Host.enc),.sl (b.map Copy.enc),.str x.name,.int .i64 x.type,.int .i64 x.life,.sl (x.data.map Datum.enc),.sl (c.map (.int .i64)),.int .i64 dr,.int .i64 fi],DV.agg [.sl (a2.map Host.enc),.sl (b2.map Copy.enc),.str x2.name,.int .i64 x2.type,.int .i64 x2.life,.sl (x2.data.map Datum.enc),.sl (c2.map (.int .i64)),.int .i64 dr2,.int .i64 fi2]] _;have hho:=rhosts35_p a a2 x x2 c c2 q1 q3 q4;refine eP Tryz.func30 ?_;refine caseB_split (fun h4=>?_) (fun h4=>?_)
 ·have hne:dr≠dr2:=by rintro rfl; simp at h4
  rw [decide_eq_false hne];refine gO Tryz.func30 ?_;refine caseB_true ?_;refine gO Tryz.func30 ?_;refine caseB_true ?_;refine gO Tryz.func30 ?_;refine caseB_true ?_;refine gO Tryz.func30 ?_;simp
 ·have he1:dr=dr2:=by simpa using h4
  rw [decide_eq_true he1];refine gO Tryz.func30 ?_;refine caseB_split (fun h5=>?_) (fun h5=>?_)
  ·have hne:fi≠fi2:=by rintro rfl; simp at h5
   rw [decide_eq_false hne];refine gO Tryz.func30 ?_;refine caseB_true ?_;refine gO Tryz.func30 ?_;refine caseB_true ?_;refine gO Tryz.func30 ?_;simp
  ·have he2:fi=fi2:=by simpa using h5
   rw [decide_eq_true he2];refine gO Tryz.func30 ?_;refine caseB_split (fun h6=>?_) (fun h6=>?_)
   ·have hne:b≠b2:=by rintro rfl; simp at h6
    rw [decide_eq_false hne];refine gO Tryz.func30 ?_;refine caseB_true ?_;refine gO Tryz.func30 ?_;simp
   ·have hbb:b.length=b2.length:=by simp only [bne_eq_false_iff_eq,List.length_map] at h6; omega
    refine gO Tryz.func30 ?_
    with_reducible refine callP_eq (hho) ?_
    refine gO Tryz.func30 ?_;generalize (decide (a=a2)&&decide (c=c2)&&decide (x=x2))=W at *;cases W
    ·refine caseB_true ?_;refine gO Tryz.func30 ?_;simp
    ·refine caseB_false ?_;refine gO Tryz.func30 ?_;refine AWL.loop (κ:=Nat) (rg 4 4++rg 47 44) (fun k=>[(5,.d (.int .i64 k))]) (fun _=>[]) (fun k=>k≤b.length∧b.take k=b2.take k) (fun k=>b.length - k) 0 ⟨Nat.zero_le _,rfl⟩ ?_ ?_
     ·(conv=>whnf);repeat (first | exact trivial | (refine sI ?_; conv=>whnf))
     ·intro k hk IH;refine AWL.head E_ok Tryz.func30 2000 ?_;(conv=>whnf);refine caseB_split (fun h7=>?_) (fun h7=>?_)
      ·have hlt:k<b.length:=by simpa using h7
       obtain ⟨u,hu⟩:=some_of_lt hlt;obtain ⟨w,hw⟩:=some_of_lt (l:=b2) (k:=k) (by omega);have hul:=q5 u (List.mem_of_getElem? hu);refine gO Tryz.func30 ?_;refine elemP_at (e:=u.enc) (at_map hu) rfl ?_;refine gO Tryz.func30 ?_;refine elemP_at (e:=w.enc) (at_map hw) rfl ?_;refine gO Tryz.func30 ?_;refine caseB_split (fun h8=>?_) (fun h8=>?_)
       ·have hne:u≠w:=by rintro rfl; simp at h8
        refine gO Tryz.func30 ?_;refine caseB_true ?_;refine gO Tryz.func30 ?_;refine caseB_true ?_;refine gO Tryz.func30 ?_;refine caseB_true ?_;refine gO Tryz.func30 ?_;rw [decide_eq_false (ne_of_at hu hw hne)];simp
       ·have e1:u.host=w.host:=by simpa using h8
        refine gO Tryz.func30 ?_;refine caseB_split (fun h9=>?_) (fun h9=>?_)
        ·have hne:u≠w:=by rintro rfl; simp at h9
         refine gO Tryz.func30 ?_;refine caseB_true ?_;refine gO Tryz.func30 ?_;refine caseB_true ?_;refine gO Tryz.func30 ?_;rw [decide_eq_false (ne_of_at hu hw hne)];simp
        ·have e2:u.frm=w.frm:=by simpa using h9
         refine gO Tryz.func30 ?_;refine caseB_split (fun h10=>?_) (fun h10=>?_)
         ·have hne:u≠w:=by rintro rfl; simp at h10
          refine gO Tryz.func30 ?_;refine caseB_true ?_;refine gO Tryz.func30 ?_;rw [decide_eq_false (ne_of_at hu hw hne)];simp
         ·have e3:u.upto=w.upto:=by simpa using h10
          refine gO Tryz.func30 ?_
          with_reducible refine callP_eq (rsameZone_p u.zone w.zone hul) ?_
          refine gO Tryz.func30 ?_;by_cases hz:u.zone=w.zone
          ·have he:u=w:=by
            obtain ⟨u1,u2,u3,u4⟩:=u;obtain ⟨w1,w2,w3,w4⟩:=w;simp only at e1 e2 e3 hz;rw [e1,e2,e3,hz]
           refine caseB_no (by simp [hz]) ?_;refine gO Tryz.func30 ?_;refine AWL.back (IH (k+1) ⟨by omega,takeEq_next hk.2 hu hw he⟩ (by omega)) ?_;(conv=>whnf);repeat (first | exact trivial | (refine sI ?_; conv=>whnf))
          ·have hne:u≠w:=fun e=>hz (e ▸ rfl);refine caseB_yes (by simp [hz]) ?_;refine gO Tryz.func30 ?_;rw [decide_eq_false (ne_of_at hu hw hne)];simp
      ·have hge:k=b.length:=by simp at h7; omega
       have heb:b=b2:=takeEq_all hk.2 (by omega) (by omega);refine gO Tryz.func30 ?_;simp [heb]
end Go.Proofs.YtnlkbbboajcoeaaGreatDoor.P
end
