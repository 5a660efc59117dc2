/- Contracts by the engine: package history: At. Conditions: lengths that Go allows. -/
import Derived.Test.YtajnanldmhpeaaaGreatDoorZP79
import Derived.Test.YtajnanldmhpeaaaGreatDoorZEngDD
set_option linter.unusedVariables false
set_option linter.unusedSimpArgs false
namespace Go.Proofs.YtajnanldmhpeaaaGreatDoor.P
open Go Go.Eng
set_option maxRecDepth 100000
set_option maxHeartbeats 4000000
theorem hclone_p (x:Signed) (h1:x.set.data.length≤2147483648) (h2:x.sigs.length≤2147483648):PCalls E 82 [x.enc] (· = x.enc):=by
 obtain ⟨⟨nm,ty,lf,dt⟩,sg⟩:=x;simp only at h1 h2;show PCalls E _ [DV.agg [.str nm,.int .i64 ty,.int .i64 lf,.sl (dt.map Datum.enc),.sl (sg.map Sig.enc)]] _;refine eP Tryz.func82 ?_
 with_reducible refine callP_eq (cloneDatum_p (dt.map Datum.enc) (by simpa using h1) (fun e h=>by obtain ⟨c,_,rfl⟩:=List.mem_map.1 h; simp [DV.cells])) ?_
 refine gO Tryz.func82 ?_
 with_reducible refine callP_eq (cloneSig_p (sg.map Sig.enc) (by simpa using h2) (fun e h=>by obtain ⟨c,_,rfl⟩:=List.mem_map.1 h; simp [DV.cells])) ?_
 refine gO Tryz.func82 ?_
 with_reducible rfl
theorem inC_a (c:Copy) (t:Int):ACalls E 81 [.cells [.d (.int .i64 t)]] [.d c.enc,.ptr 0 0] (fun a b=>a = .d (.bool (decide (c.frm≤t)&&decide (t<c.upto)))∧b=[.cells [.d (.int .i64 t)],.cells [.d (.int .i64 c.host),.d (.int .i64 c.frm),.d (.int .i64 c.upto),.d (.str c.zone.apex),.d (.sl (c.zone.sets.map Signed.enc))]]):=by
 show ACalls E _ _ [.d (DV.agg [.int .i64 c.host,.int .i64 c.frm,.int .i64 c.upto,.str c.zone.apex,.sl (c.zone.sets.map Signed.enc)]),.ptr 0 0] _;refine ACalls.run E_ok (fn:=Tryz.f81) Tryz.func81 (body:=Tryz.f81.body.getD .skip) rfl (by decide) 2000 rfl ?_;(conv=>whnf);refine caseB_split (fun h1=>?_) (fun h1=>?_)
 ·refine gO Tryz.func81 ?_;rw [h1];exact ⟨rfl,rfl⟩
 ·refine gO Tryz.func81 ?_;rw [h1];exact ⟨rfl,rfl⟩
theorem ev_func {G:List (Nat × DV)} {s:List AV} {f:FuncId}:EvOK G s (.func f) (.fn (.func f) [] []):=fun c a _ _=>by
 have:a.eval (.func f) = .func (.func f) #[] #[]:=rfl;rw [this];exact .fn _ [] [] #[] #[] rfl rfl (fun j x v hx=>by simp at hx) (fun j x v hx=>by simp at hx)
theorem evs_two {G:List (Nat × DV)} {s:List AV} {x y:Operand} {v w:AV} (h:EvOK G s x v) (k:EvOK G s y w):EvsOK G s [x,y] [v,w]:=fun c a h3 h4=>VL.cons (h c a h3 h4) (VL.cons (k c a h3 h4) .nil)
theorem histB_short {h:History} (hv:histB h=true):h.copies.length≤4000∧(∀ c∈h.copies,c.zone.Short)∧h.hosts.length≤2147483648∧h.anchor.data.length≤2147483648∧h.hints.length≤2147483648:=by
 obtain ⟨q1,q2,q3,q4,q5,⟨q6,q7⟩,⟨g1,g2⟩,q8⟩:=histB_iff.1 hv;simp only [hostsB,rootB,Bool.and_eq_true,decide_eq_true_eq] at q6 q7;obtain ⟨⟨⟨⟨⟨r1,r2⟩,r3⟩,r4⟩,r5⟩,r6⟩:=q7;have:=setOK_lens r1;exact ⟨q5,fun c hc=>zoneR_short (copyOK_iff.1 (g1 c hc)).2.2.2.2.2,by omega,by omega,by omega⟩
theorem served_next {l:List Copy} {t:Int} {k:Nat} {c:Copy} (h:l[k]? = some c):servedL (l.take (k+1)) t=servedL (l.take k) t++(if c.frm≤t∧t<c.upto then [⟨c.host,c.zone⟩] else []):=by
 rw [take_next h,served_app,served_one]
def atD (h:History) (t:Int):DV:=if atN h t=0 then .tup [(atW h t).enc,.int .i64 0] else .tup [.agg [.nilsl,.nilsl,.str [],.int .i64 0,.int .i64 0,.nilsl,.nilsl],.int .i64 (atN h t)]
theorem at_raw (h:History) (t:Int) (hf:h.Fits) (hk1:h.copies.length≤1000000):PCalls E 34 [h.enc,.int .i64 t] (· = atD h t):=by
 have hv0:=hvalid_p h hf hk1;by_cases h0:atN h t=0
 case neg =>
  have e1:atN h t=1:=by
   unfold atN at h0 ⊢;split at h0
   ·exact absurd rfl h0
   ·rename_i hh; rw [if_neg hh]
  have e2:atD h t = .tup [.agg [.nilsl,.nilsl,.str [],.int .i64 0,.int .i64 0,.nilsl,.nilsl],.int .i64 1]:=by rw [atD,if_neg h0,e1]
  rw [e2];have h1:¬ (histB h=true∧0≤t∧t<h.fin):=fun hh=>h0 (atN_zero.2 hh);cases hv:histB h
  ·rw [hv] at hv0;obtain ⟨hosts,copies,anchor,hints,drift,fin⟩:=h;show PCalls E _ [DV.agg [.sl (hosts.map Host.enc),.sl (copies.map Copy.enc),.str anchor.name,.int .i64 anchor.type,.int .i64 anchor.life,.sl (anchor.data.map Datum.enc),.sl (hints.map (.int .i64)),.int .i64 drift,.int .i64 fin],_] _;refine eP Tryz.func34 ?_
   with_reducible refine callP_eq (hv0) ?_
   refine gO Tryz.func34 ?_;refine caseB_true ?_;refine gO Tryz.func34 ?_;refine caseB_true ?_;refine gO Tryz.func34 ?_;refine caseB_true ?_;refine gO Tryz.func34 ?_
   with_reducible rfl
  ·rw [hv] at hv0;obtain ⟨hosts,copies,anchor,hints,drift,fin⟩:=h;show PCalls E _ [DV.agg [.sl (hosts.map Host.enc),.sl (copies.map Copy.enc),.str anchor.name,.int .i64 anchor.type,.int .i64 anchor.life,.sl (anchor.data.map Datum.enc),.sl (hints.map (.int .i64)),.int .i64 drift,.int .i64 fin],_] _;refine eP Tryz.func34 ?_
   with_reducible refine callP_eq (hv0) ?_
   refine gO Tryz.func34 ?_;refine caseB_false ?_;refine gO Tryz.func34 ?_;refine caseB_split (fun a1=>?_) (fun a1=>?_)
   ·refine gO Tryz.func34 ?_;refine caseB_true ?_;refine gO Tryz.func34 ?_
    with_reducible rfl
   ·refine gO Tryz.func34 ?_;refine caseB_split (fun a2=>?_) (fun a2=>?_)
    ·refine gO Tryz.func34 ?_
     with_reducible rfl
    ·exact absurd ⟨hv,by simpa using a1,by simpa using a2⟩ h1
 obtain ⟨hv,t1,t2⟩:=atN_zero.1 h0;have e2:atD h t = .tup [(⟨h.hosts,servedL h.copies t,h.anchor,h.hints⟩:Wld).enc,.int .i64 0]:=by rw [atD,if_pos h0,atW,if_pos h0]
 rw [e2];rw [hv] at hv0;obtain ⟨k1,k2,k3,k4,k5⟩:=histB_short hv;obtain ⟨hosts,copies,anchor,hints,drift,fin⟩:=h;simp only at k1 k2 k3 k4 k5 t2;show PCalls E _ [DV.agg [.sl (hosts.map Host.enc),.sl (copies.map Copy.enc),.str anchor.name,.int .i64 anchor.type,.int .i64 anchor.life,.sl (anchor.data.map Datum.enc),.sl (hints.map (.int .i64)),.int .i64 drift,.int .i64 fin],_] (· = DV.tup [DV.agg [.sl (hosts.map Host.enc),.sl ((servedL copies t).map Placed.enc),.str anchor.name,.int .i64 anchor.type,.int .i64 anchor.life,.sl (anchor.data.map Datum.enc),.sl (hints.map (.int .i64))],.int .i64 0]);refine eP Tryz.func34 ?_
 with_reducible refine callP_eq (hv0) ?_
 refine gO Tryz.func34 ?_;refine caseB_false ?_;refine gO Tryz.func34 ?_;refine caseB_no (by simp; omega) ?_;refine gO Tryz.func34 ?_;refine caseB_no (by simp; omega) ?_;refine gO Tryz.func34 ?_;refine AWL.drawA E_ok E_mixed 9 2000 (by kernel_rfl) ?_;conv=>whnf
 with_reducible refine callP1_eq (cloneHost_p (hosts.map Host.enc) (by simpa using k3) (fun e h=>by obtain ⟨c,_,rfl⟩:=List.mem_map.1 h; simp [DV.cells])) ?_
 refine gD ?_
 with_reducible refine callP1_eq (cloneInt_p (hints.map (.int .i64)) (by simpa using k5) (fun e h=>by obtain ⟨c,_,rfl⟩:=List.mem_map.1 h; simp [DV.cells])) ?_
 refine gD ?_;refine gS ?_;refine gO Tryz.func34 ?_
 with_reducible refine callP_eq (cloneDatum_p (anchor.data.map Datum.enc) (by simpa using k4) (fun e h=>by obtain ⟨c,_,rfl⟩:=List.mem_map.1 h; simp [DV.cells])) ?_
 (conv=>whnf);repeat ((fail_if_success (refine AWL.callIn (fn:=Tryz.f80) rfl rfl ev_func (evs_two (ev_at rfl) (ev_at rfl)) Tryz.func80 rfl (by decide) ?_)); (refine AWL.run E_ok Tryz.func34 1 ?_); (conv=>whnf))
 refine AWL.callIn (fn:=Tryz.f80) rfl rfl ev_func (evs_two (ev_at rfl) (ev_at rfl)) Tryz.func80 rfl (by decide) ?_;(conv=>whnf);refine gO Tryz.func80 ?_;refine AWL.retIn E_ok Tryz.func80 rfl rfl rfl (L:=[]) rfl ?_;(conv=>whnf);refine gO Tryz.func34 ?_;refine AWL.adoptCell 3 1 (79,3) (by decide) rfl rfl ?_;(conv=>whnf);refine AWL.rangeFunc (ev_at rfl) Tryz.func114 rfl (by decide) rfl (fun ll d tt=>?_);refine gO Tryz.func114 ?_;refine AWL.loopX (κ:=Nat) [5,9,10,11,12,13,14,15,16,17,18,19,20,21,22] (fun k=>[(9,.d (.int .i64 k))]) (fun k=>[(3,.cells [.d (.sl (hosts.map Host.enc)),.own 6 1,.d (.str anchor.name),.d (.int .i64 anchor.type),.d (.int .i64 anchor.life),.d (.sl (anchor.data.map Datum.enc)),.d (.sl (hints.map (.int .i64)))]),(6,.arr 1 (79,3) ((servedL (copies.take k) t).map Placed.enc))]) (fun k=>k≤copies.length) (fun k=>copies.length - k) 0 (Nat.zero_le _) ?_ ?_
 ·(conv=>whnf);repeat (first | exact trivial | (refine sI ?_; conv=>whnf))
  refine And.intro rfl ?_;(conv=>whnf);repeat (first | exact trivial | (refine sI ?_; conv=>whnf))
 intro k hk IH;refine AWL.head E_ok Tryz.func114 2000 ?_;(conv=>whnf);refine caseB_split (fun h5=>?_) (fun h5=>?_)
 ·have hlt:k<copies.length:=by simpa using h5
  obtain ⟨c,hc⟩:=some_of_lt hlt;have hnext:=served_next (t:=t) hc;have hsl:=served_len (cs:=copies.take k) (t:=t);have hsl2:(copies.take k).length≤copies.length:=by simp; omega
  refine gO Tryz.func114 ?_;refine elemP_at (e:=c.enc) (at_map hc) rfl ?_;refine gO Tryz.func114 ?_
  with_reducible refine callS_eq (inC_a c t) ?_
  refine gO Tryz.func114 ?_;by_cases hm:c.frm≤t∧t<c.upto
  case neg =>
   rw [if_neg hm,List.append_nil] at hnext;refine caseB_no (by simp; omega) ?_;refine gO Tryz.func114 ?_;refine caseB_false ?_;refine gO Tryz.func114 ?_;refine AWL.backX (IH (k+1) (by omega) (by omega)) ?_;rw [hnext];(conv=>whnf);repeat (first | exact trivial | (refine sI ?_; conv=>whnf))
  rw [if_pos hm] at hnext;obtain ⟨sh1,sh2⟩:=k2 c (List.mem_of_getElem? hc);refine caseB_yes (by simp [hm]) ?_;refine gO Tryz.func114 ?_;refine AWL.yieldG 0 rfl (wanted_test rfl rfl rfl rfl) rfl (ev_at rfl) (evs_one (ev_at rfl)) rfl ?_;(conv=>whnf);refine gO Tryz.func34 ?_;refine AWL.begin 0 rfl rfl rfl ?_;(conv=>whnf);refine gO Tryz.func34 ?_;refine AWL.adoptCell 10 1 (129,5) (by decide) rfl rfl ?_;(conv=>whnf);refine gO Tryz.func34 ?_;refine AWL.loopX (κ:=Nat) [10,52,53,54,55,56,57,58,59,60,61,62,63] (fun j=>[(52,.d (.int .i64 j))]) (fun j=>[(10,.cells [.d (.str c.zone.apex),.own 11 1]),(11,.arr 1 (129,5) ((c.zone.sets.take j).map Signed.enc))]) (fun j=>j≤c.zone.sets.length) (fun j=>c.zone.sets.length - j) 0 (Nat.zero_le _) ?_ ?_
  ·(conv=>whnf);repeat (first | exact trivial | (refine sI ?_; conv=>whnf))
   refine And.intro rfl ?_;(conv=>whnf);repeat (first | exact trivial | (refine sI ?_; conv=>whnf))
  intro j hj JH;refine AWL.head E_ok Tryz.func34 2000 ?_;(conv=>whnf);refine caseB_split (fun h6=>?_) (fun h6=>?_)
  ·have hjlt:j<c.zone.sets.length:=by simpa using h6
   obtain ⟨x,hx⟩:=some_of_lt hjlt;obtain ⟨q1,q2⟩:=sh2 x (List.mem_of_getElem? hx);refine gO Tryz.func34 ?_;have hjl:(c.zone.sets.take j).length=j:=by simp; omega
   refine elemP_at (e:=x.enc) (at_map hx) rfl ?_;refine gO Tryz.func34 ?_;refine AWL.drawR E_ok E_mixed 5 2000 (by kernel_rfl) ?_;conv=>whnf
   with_reducible refine callP1_eq (hclone_p x q1 q2) ?_
   refine gD ?_;refine gS ?_;refine need_intro ⟨by simp only [List.length_map,List.length_cons,List.length_nil]; omega,by simp [DV.cells]⟩ ?_;refine gS ?_;refine gO Tryz.func34 ?_;refine AWL.backX (JH (j+1) (by omega) (by omega)) ?_;rw [take_next hx];(conv=>whnf);repeat (first | exact trivial | (refine sI ?_; conv=>whnf))
   refine And.intro (by simp) ?_;(conv=>whnf);repeat (first | exact trivial | (refine sI ?_; conv=>whnf))
  ·have hge:c.zone.sets.length≤j:=by simpa using h6
   rw [List.take_of_length_le hge];clear JH;(conv=>whnf);refine AWL.freeze 11 ?_;(conv=>whnf);refine gO Tryz.func34 ?_;refine need_intro ⟨by simp only [List.length_map,List.length_cons,List.length_nil]; omega,by simp [DV.cells]⟩ ?_;refine gO Tryz.func34 ?_;refine AWL.roundEnd 0 rfl rfl rfl ?_;(conv=>whnf);refine gO Tryz.func114 ?_;refine caseB_true ?_;refine gO Tryz.func114 ?_;refine caseB_false ?_;refine gO Tryz.func114 ?_;refine AWL.backX (IH (k+1) (by omega) (by omega)) ?_;rw [hnext];(conv=>whnf);repeat (first | exact trivial | (refine sI ?_; conv=>whnf))
   refine And.intro (by simp) ?_;(conv=>whnf);repeat (first | exact trivial | (refine sI ?_; conv=>whnf))
 ·have hge:copies.length≤k:=by simpa using h5
  rw [List.take_of_length_le hge];refine gO Tryz.func114 ?_;refine AWL.rangeEnd E_ok Tryz.func114 rfl rfl rfl rfl (fun e=>nomatch e) ?_;(conv=>whnf);refine gO Tryz.func34 ?_;refine AWL.retTop E_ok Tryz.func34 rfl rfl rfl rfl rfl ?_;conv=>whnf
theorem at_p (h:History) (t:Int) (hf:h.Fits) (hk1:h.copies.length≤1000000):PCalls E 34 [h.enc,.int .i64 t] (· = .tup [(atW h t).enc,.int .i64 (atN h t)]):=by
 have H:=at_raw h t hf hk1;by_cases h0:atN h t=0
 ·refine H.mono fun r e=>?_;rw [e,atD,if_pos h0,h0]
 ·refine PCalls.norm (H.mono fun r e=>?_);rw [e,atD,if_neg h0,atW,if_neg h0];rfl
end Go.Proofs.YtajnanldmhpeaaaGreatDoor.P
