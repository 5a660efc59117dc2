/- Contracts by the engine: package steps: World. Conditions: lengths that Go allows. -/
import Derived.Test.YtajnanldmhpeaaaGreatDoorZP78
set_option linter.unusedVariables false
set_option linter.unusedSimpArgs false
namespace Go.Proofs.YtajnanldmhpeaaaGreatDoor.P
open Go Go.Eng
set_option maxRecDepth 100000
set_option maxHeartbeats 4000000
theorem apexW_p (c:Placed):PCalls E 86 [c.enc] (· = .str c.zone.apex):=by
 refine eP Tryz.func86 ?_
 with_reducible rfl
theorem tooManyP_a (l:List Placed) (hl:l.length≤1000000):ACalls E 85 [.arr 0 (79,3) (l.map Placed.enc)] [.own 0 0,.d (.int .i64 4000),.d (.int .i64 500),.fn (.func 86) [] []] (fun a b=>∃ es,a = .d (.bool (manyP l))∧b=[.arr 0 (79,3) (l.map Placed.enc),.map es]):=by
 have hap:=apexP_len l;refine ACalls.run E_ok (fn:=Tryz.f85) Tryz.func85 (body:=Tryz.f85.body.getD .skip) rfl (by decide) 2000 rfl ?_;(conv=>whnf);refine gO Tryz.func85 ?_;refine gO Tryz.func85 ?_;refine AWL.loop (κ:=Nat) ([11]++rg 15 9) (fun k=>[(15,.d (.int .i64 k)),(9,.map 1)]) (fun k=>[(1,.map (setM DV.str ((l.take k).map (·.zone.apex))))]) (fun k=>k≤l.length) (fun k=>l.length - k) 0 (Nat.zero_le _) ?_ ?_
 ·(conv=>whnf);repeat (first | exact trivial | (refine sI ?_; conv=>whnf))
  refine And.intro rfl ?_;(conv=>whnf);repeat (first | exact trivial | (refine sI ?_; conv=>whnf))
 intro k hk IH;refine AWL.head E_ok Tryz.func85 2000 ?_;(conv=>whnf);refine caseB_split (fun h5=>?_) (fun h5=>?_)
 ·have hlt:k<l.length:=by simpa using h5
  obtain ⟨c,hc⟩:=some_of_lt hlt;have hkeys:=(setM_ok keyEq_text ((l.take k).map (·.zone.apex))).1;refine gO Tryz.func85 ?_;refine need_intro ⟨by omega,by simp; omega⟩ ?_;refine gO Tryz.func85 ?_;refine elemP_at (e:=c.enc) (at_map hc) rfl ?_;refine gO Tryz.func85 ?_
  with_reducible refine callP_eq (apexW_p c) ?_
  refine gO Tryz.func85 ?_;refine need_intro ⟨⟨_,rfl⟩,hkeys⟩ ?_;refine gO Tryz.func85 ?_;refine AWL.back (IH (k+1) (by omega) (by omega)) ?_;rw [apexP_next hc,setM_snoc];(conv=>whnf);repeat (first | exact trivial | (refine sI ?_; conv=>whnf))
 ·have hge:l.length≤k:=by simpa using h5
  rw [List.take_of_length_le (by omega)];refine gO Tryz.func85 ?_;refine caseB_split (fun h6=>?_) (fun h6=>?_)
  ·refine gO Tryz.func85 ?_;refine ⟨_,?_,rfl⟩;have:4000<l.length:=by simp at h6; omega
   simp [manyP,this]
  ·refine gO Tryz.func85 ?_;refine gO Tryz.func85 ?_;refine ⟨_,?_,rfl⟩;have h7:decide (4000<l.length)=false:=by simp at h6 ⊢; omega
   rw [manyP,h7,Bool.false_or,hap];refine congrArg (fun b=>AV.d (DV.bool b)) ?_;rw [Bool.eq_iff_iff];simp;try omega
theorem filt_next {α:Type} {P:α→Bool} {l:List α} {k:Nat} {x:α} (h:l[k]? = some x):(l.take (k+1)).filter P=(l.take k).filter P++(if P x then [x] else []):=by
 rw [take_next h,List.filter_append];cases hp:P x <;> simp [hp]
theorem filt_len {α:Type} {P:α→Bool} {l:List α} {k:Nat}:((l.take k).filter P).length≤l.length:=by
 have h1:=List.length_filter_le P (l.take k);have h2:(l.take k).length≤l.length:=by simp; omega
 omega
theorem placed_same {l:List Placed} {i:Nat} {x:Placed} (h:l[i]? = some x):(l.map Placed.enc).set i x.enc=l.map Placed.enc:=by
 apply List.ext_getElem?;intro j;rw [List.getElem?_set];split
 ·rename_i e;subst e;have hlt:=lt_of_getElem? h;rw [if_pos (by simpa using hlt),List.getElem?_map,h];rfl
 ·rfl
def worldD (w:Wld) (s:Stage):DV:=if worldN w s=0 then .tup [(worldS w s).enc,.int .i64 0] else .tup [.agg [.nilsl,.nilsl,.str [],.int .i64 0,.int .i64 0,.nilsl,.nilsl],.int .i64 (worldN w s)]
theorem world_raw (w:Wld) (s:Stage) (hf:w.Fits) (hs:s.Fits):PCalls E 36 [w.enc,s.enc] (· = worldD w s):=by
 have hv0:=worldValid_p w hf;have hs0:=stageOK_p s (w.hosts.map Host.enc).length hs;rw [show stageB (w.hosts.map Host.enc).length s=stageB w.hosts.length s by rw [List.length_map]] at hs0;cases hv:worldB w
 ·have e1:worldN w s=1:=by simp [worldN,hv]
  have e2:worldD w s = .tup [.agg [.nilsl,.nilsl,.str [],.int .i64 0,.int .i64 0,.nilsl,.nilsl],.int .i64 1]:=by simp [worldD,e1]
  rw [e2];rw [hv] at hv0;obtain ⟨hosts,zones,anchor,hints⟩:=w;obtain ⟨puts⟩:=s;show PCalls E _ [DV.agg [.sl (hosts.map Host.enc),.sl (zones.map Placed.enc),.str anchor.name,.int .i64 anchor.type,.int .i64 anchor.life,.sl (anchor.data.map Datum.enc),.sl (hints.map (.int .i64))],DV.agg [.sl (puts.map Placed.enc)]] _;refine eP Tryz.func36 ?_
  with_reducible refine callP_eq (hv0) ?_
  refine gO Tryz.func36 ?_;refine caseB_true ?_;refine gO Tryz.func36 ?_;refine caseB_true ?_;refine gO Tryz.func36 ?_
  with_reducible rfl
 cases hb:stageB w.hosts.length s
 ·have e1:worldN w s=1:=by simp [worldN,hb]
  have e2:worldD w s = .tup [.agg [.nilsl,.nilsl,.str [],.int .i64 0,.int .i64 0,.nilsl,.nilsl],.int .i64 1]:=by simp [worldD,e1]
  rw [e2];rw [hv] at hv0;rw [hb] at hs0;obtain ⟨hosts,zones,anchor,hints⟩:=w;obtain ⟨puts⟩:=s;show PCalls E _ [DV.agg [.sl (hosts.map Host.enc),.sl (zones.map Placed.enc),.str anchor.name,.int .i64 anchor.type,.int .i64 anchor.life,.sl (anchor.data.map Datum.enc),.sl (hints.map (.int .i64))],DV.agg [.sl (puts.map Placed.enc)]] _;refine eP Tryz.func36 ?_
  with_reducible refine callP_eq (hv0) ?_
  refine gO Tryz.func36 ?_;refine caseB_false ?_;refine gO Tryz.func36 ?_
  with_reducible refine callP_eq (hs0) ?_
  refine gO Tryz.func36 ?_;refine caseB_true ?_;refine gO Tryz.func36 ?_
  with_reducible rfl
 ·rw [hv] at hv0;rw [hb] at hs0;obtain ⟨v1,v2,v3⟩:=worldB_iff.1 hv;obtain ⟨p1,p2,p3,p4⟩:=placesB_iff.1 v2;obtain ⟨s1,s2,s3⟩:=stageB_iff.1 hb;obtain ⟨hosts,zones,anchor,hints⟩:=w;obtain ⟨puts⟩:=s;simp only at v1 v3 p1 p2 p3 p4 s1 s2 s3;have hho:hosts.length≤2147483648:=by simp only [hostsB,Bool.and_eq_true,decide_eq_true_eq] at v1; omega
  have hro:anchor.data.length≤2147483648∧hints.length≤2147483648:=by
   simp only [rootB,Bool.and_eq_true,decide_eq_true_eq] at v3;obtain ⟨⟨⟨⟨⟨q9,q10⟩,q11⟩,q12⟩,q13⟩,q14⟩:=v3;have:=setOK_lens q9;omega
  show PCalls E _ [DV.agg [.sl (hosts.map Host.enc),.sl (zones.map Placed.enc),.str anchor.name,.int .i64 anchor.type,.int .i64 anchor.life,.sl (anchor.data.map Datum.enc),.sl (hints.map (.int .i64))],DV.agg [.sl (puts.map Placed.enc)]] _;refine eP Tryz.func36 ?_
  with_reducible refine callP_eq (hv0) ?_
  refine gO Tryz.func36 ?_;refine caseB_false ?_;refine gO Tryz.func36 ?_
  with_reducible refine callP_eq (hs0) ?_
  refine gO Tryz.func36 ?_;refine caseB_false ?_;refine gO Tryz.func36 ?_;refine callP_own (mentioned_a ⟨puts⟩ hs) rfl ?_;refine gO Tryz.func36 ?_;refine AWL.adopt 7 (79,3) (by decide) rfl ?_;refine gO Tryz.func36 ?_;refine AWL.loop (κ:=Nat) ([7,9]++rg 30 18) (fun k=>[(30,.d (.int .i64 k)),(7,.own 5 1)]) (fun k=>[(5,.arr 1 (79,3) (((zones.take k).filter (fun p => !decide (p.spot∈puts.map Placed.spot))).map Placed.enc))]) (fun k=>k≤zones.length) (fun k=>zones.length - k) 0 (Nat.zero_le _) ?_ ?_
  ·(conv=>whnf);repeat (first | exact trivial | (refine sI ?_; conv=>whnf))
   refine And.intro rfl ?_;(conv=>whnf);repeat (first | exact trivial | (refine sI ?_; conv=>whnf))
  intro k hk IH;refine AWL.head E_ok Tryz.func36 2000 ?_;(conv=>whnf);refine caseB_split (fun h5=>?_) (fun h5=>?_)
  ·have hlt:k<zones.length:=by simpa using h5
   obtain ⟨x,hx⟩:=some_of_lt hlt;have hnext:=filt_next (P:=fun p:Placed => !decide (p.spot∈puts.map Placed.spot)) hx;have hfl:=filt_len (P:=fun p:Placed => !decide (p.spot∈puts.map Placed.spot)) (l:=zones) (k:=k);obtain ⟨hf1,hf2⟩:=setM_has keyEq_spot (puts.map Placed.spot) x.spot;have hkeys:=(setM_ok keyEq_spot (puts.map Placed.spot)).1;refine gO Tryz.func36 ?_;refine elemP_at (e:=x.enc) (at_map hx) rfl ?_;refine gO Tryz.func36 ?_;refine lookP_intro (.bool false) (.bool false) ⟨_,rfl,rfl,⟨_,rfl,_,rfl⟩,rfl,⟨_,rfl,_,rfl⟩,trivial⟩ (fit_pairs hkeys) (fun w=>by kernel_rfl) (fun _ _ => .bool _) hf1 hf2 ?_;refine gO Tryz.func36 ?_;by_cases hm:x.spot∈puts.map Placed.spot
   ·refine caseB_no (by simp [hm]) ?_;refine gO Tryz.func36 ?_;refine AWL.back (IH (k+1) (by omega) (by omega)) ?_;rw [hnext,if_neg (by simp [hm]),List.append_nil];(conv=>whnf);repeat (first | exact trivial | (refine sI ?_; conv=>whnf))
   ·refine caseB_yes (by simp [hm]) ?_;refine gO Tryz.func36 ?_;refine need_intro ⟨by simp only [List.length_map,List.length_append,List.length_cons,List.length_nil]; omega,by simp [DV.cells]⟩ ?_;refine gO Tryz.func36 ?_;refine AWL.back (IH (k+1) (by omega) (by omega)) ?_;rw [hnext,if_pos (by simp [hm])];(conv=>whnf);repeat (first | exact trivial | (refine sI ?_; conv=>whnf))
    refine And.intro (by simp) ?_;(conv=>whnf);repeat (first | exact trivial | (refine sI ?_; conv=>whnf))
  ·have hge:zones.length≤k:=by simpa using h5
   rw [List.take_of_length_le hge];clear IH;refine gO Tryz.func36 ?_;refine AWL.loop (κ:=Nat) ([7,11]++rg 51 13) (fun k=>[(51,.d (.int .i64 k)),(7,.own 5 2)]) (fun k=>[(5,.arr 2 (79,3) ((zones.filter (fun p => !decide (p.spot∈puts.map Placed.spot))++(puts.take k).filter (fun p => !stopB p.zone)).map Placed.enc))]) (fun k=>k≤puts.length) (fun k=>puts.length - k) 0 (Nat.zero_le _) ?_ ?_
   ·(conv=>whnf);repeat (first | exact trivial | (refine sI ?_; conv=>whnf))
    refine And.intro (by simp) ?_;(conv=>whnf);repeat (first | exact trivial | (refine sI ?_; conv=>whnf))
   intro j hj IH;refine AWL.head E_ok Tryz.func36 2000 ?_;(conv=>whnf);refine caseB_split (fun h6=>?_) (fun h6=>?_)
   ·have hjlt:j<puts.length:=by simpa using h6
    obtain ⟨p,hp⟩:=some_of_lt hjlt;have hpz:=hs.zones p (List.mem_of_getElem? hp);have hnext:=filt_next (P:=fun p:Placed => !stopB p.zone) hp;have hfl:=filt_len (P:=fun p:Placed => !stopB p.zone) (l:=puts) (k:=j);have hfl2:=List.length_filter_le (fun p:Placed => !decide (p.spot∈puts.map Placed.spot)) zones;refine gO Tryz.func36 ?_;refine elemP_at (e:=p.enc) (at_map hp) rfl ?_;refine gO Tryz.func36 ?_
    with_reducible refine callP_eq (isStop_p p.zone hpz) ?_
    refine gO Tryz.func36 ?_;cases hstop:stopB p.zone
    ·rw [hstop] at hnext;refine caseB_yes rfl ?_;refine gO Tryz.func36 ?_;refine need_intro ⟨by simp only [List.length_map,List.length_append,List.length_cons,List.length_nil]; omega,by simp [DV.cells]⟩ ?_;refine gO Tryz.func36 ?_;refine AWL.back (IH (j+1) (by omega) (by omega)) ?_;rw [hnext];(conv=>whnf);repeat (first | exact trivial | (refine sI ?_; conv=>whnf))
     refine And.intro (by simp) ?_;(conv=>whnf);repeat (first | exact trivial | (refine sI ?_; conv=>whnf))
    ·rw [hstop] at hnext;refine caseB_no rfl ?_;refine gO Tryz.func36 ?_;refine AWL.back (IH (j+1) (by omega) (by omega)) ?_;rw [hnext];(conv=>whnf);repeat (first | exact trivial | (refine sI ?_; conv=>whnf))
     refine And.intro (by simp) ?_;(conv=>whnf);repeat (first | exact trivial | (refine sI ?_; conv=>whnf))
   ·have hge:puts.length≤j:=by simpa using h6
    rw [List.take_of_length_le hge];clear IH;have hal:=after_len (l:=zones) (s:=⟨puts⟩);have haf:zones.filter (fun p => !decide (p.spot∈puts.map Placed.spot))++puts.filter (fun p => !stopB p.zone)=afterL zones ⟨puts⟩:=rfl;simp only at hal;refine gO Tryz.func36 ?_;rw [haf]
    with_reducible refine callS_any (tooManyP_a (afterL zones ⟨puts⟩) (by omega)) ?_
    rintro r h1 ⟨es,e1,e2⟩;subst e1;subst e2;cases hm:manyP (afterL zones ⟨puts⟩)
    ·have e1:worldN ⟨hosts,zones,anchor,hints⟩ ⟨puts⟩=0:=worldN_zero.2 ⟨hv,hb,hm⟩;have e2:worldD ⟨hosts,zones,anchor,hints⟩ ⟨puts⟩ = .tup [(⟨hosts,afterL zones ⟨puts⟩,anchor,hints⟩:Wld).enc,.int .i64 0]:=by rw [worldD,if_pos e1,worldS_zero e1]
     rw [e2];refine gO Tryz.func36 ?_;refine caseB_false ?_;refine gO Tryz.func36 ?_;have hall:∀ p∈afterL zones ⟨puts⟩,p.zone.Short:=fun p hp=>by
      rcases after_mem.1 hp with ⟨h1,_⟩ | ⟨h1,h2⟩
      ·have:=p2 p h1;simp only [placedOK,Bool.and_eq_true] at this;exact zoneR_short this.2
      ·have:=s2 p h1;simp only [putOK,Bool.and_eq_true,h2,Bool.false_or] at this;exact zoneR_short this.2
     clear hm e1 e2 haf;generalize afterL zones ⟨puts⟩=L at *;refine AWL.loop (κ:=Nat) ([7]++[12,69,70,71,72,73,74,75,76,77,78,79,80,81,82]) (fun k=>[(69,.d (.int .i64 k)),(7,.own 5 2)]) (fun k=>[(5,.arr 2 (79,3) (L.map Placed.enc))]) (fun k=>k≤L.length) (fun k=>L.length - k) 0 (Nat.zero_le _) ?_ ?_
     ·(conv=>whnf);repeat (first | exact trivial | (refine sI ?_; conv=>whnf))
     intro k hk IH;refine AWL.head E_ok Tryz.func36 2000 ?_;(conv=>whnf);refine caseB_split (fun h5=>?_) (fun h5=>?_)
     ·have hlt:k<L.length:=by simpa using h5
      obtain ⟨x,hx⟩:=some_of_lt hlt;have hb:0≤(k:Int)∧(k:Int)<((L.map Placed.enc).length:Int):=⟨by omega,by simp; omega⟩;have hset:(L.map Placed.enc).set (k:Int).toNat (DV.agg [.int .i64 x.host,.str x.zone.apex,.sl (x.zone.sets.map Signed.enc)])=L.map Placed.enc:=placed_same hx;refine gO Tryz.func36 ?_;refine need_intro hb ?_;refine gO Tryz.func36 ?_;refine elemP_at (e:=x.enc) (at_map hx) rfl ?_;refine gO Tryz.func36 ?_
      with_reducible refine callP_eq (cloned_p x.zone (hall x (List.mem_of_getElem? hx))) ?_
      refine gO Tryz.func36 ?_;refine need_intro hb ?_;refine gO Tryz.func36 ?_;refine elemP_at (e:=x.enc) (at_map hx) rfl ?_;refine gO Tryz.func36 ?_;rw [hset];refine gO Tryz.func36 ?_;refine AWL.back (IH (k+1) (by omega) (by omega)) ?_;(conv=>whnf);repeat (first | exact trivial | (refine sI ?_; conv=>whnf))
     ·refine gO Tryz.func36 ?_
      with_reducible refine callP_eq (cloneHost_p (hosts.map Host.enc) (by simpa using hho) (fun e h=>by obtain ⟨c,_,rfl⟩:=List.mem_map.1 h; simp [DV.cells])) ?_
      refine gO Tryz.func36 ?_
      with_reducible refine callP_eq (cloneDatum_p (anchor.data.map Datum.enc) (by simpa using hro.1) (fun e h=>by obtain ⟨c,_,rfl⟩:=List.mem_map.1 h; simp [DV.cells])) ?_
      refine gO Tryz.func36 ?_
      with_reducible refine callP_eq (cloneInt_p (hints.map (.int .i64)) (by simpa using hro.2) (fun e h=>by obtain ⟨c,_,rfl⟩:=List.mem_map.1 h; simp [DV.cells])) ?_
      refine gO Tryz.func36 ?_
      with_reducible rfl
    ·have e1:worldN ⟨hosts,zones,anchor,hints⟩ ⟨puts⟩=2:=by
      rcases worldN_two hv hb with e | e
      ·rw [worldN_zero] at e; have:=e.2.2; rw [hm] at this; cases this
      ·exact e
     have e2:worldD ⟨hosts,zones,anchor,hints⟩ ⟨puts⟩ = .tup [.agg [.nilsl,.nilsl,.str [],.int .i64 0,.int .i64 0,.nilsl,.nilsl],.int .i64 2]:=by simp [worldD,e1]
     rw [e2];refine gO Tryz.func36 ?_;refine caseB_true ?_;refine gO Tryz.func36 ?_
     with_reducible rfl
theorem world_p (w:Wld) (s:Stage) (hf:w.Fits) (hs:s.Fits):PCalls E 36 [w.enc,s.enc] (· = .tup [(worldS w s).enc,.int .i64 (worldN w s)]):=by
 have H:=world_raw w s hf hs;by_cases h0:worldN w s=0
 ·refine H.mono fun r e=>?_;rw [e,worldD,if_pos h0,h0]
 ·refine PCalls.norm (H.mono fun r e=>?_);rw [e,worldD,if_neg h0,worldS,if_neg h0];rfl
end Go.Proofs.YtajnanldmhpeaaaGreatDoor.P
