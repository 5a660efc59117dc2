/- Contracts by the engine: package world and its reference: which worlds are valid. Conditions: lengths that Go allows. -/
import Derived.Test.YtajnanldmhpeaaaGreatDoorZP77
set_option linter.unusedVariables false
set_option linter.unusedSimpArgs false
namespace Go.Proofs.YtajnanldmhpeaaaGreatDoor.P
open Go Go.Eng
set_option maxRecDepth 100000
set_option maxHeartbeats 4000000
structure Wld.Fits (w:Wld):Prop where
 hosts:∀ x∈w.hosts,x.name.length≤maxLen
 anchor:w.anchor.Fits
 hints:w.hints.length≤maxLen
 zones:∀ p∈w.zones,p.zone.Fits
theorem places_no {l:List Placed} {n:Nat} (h:l.all (placedOK n)=false):placesB n l=false:=by simp [placesB,h]
theorem apexP_next {l:List Placed} {k:Nat} {x:Placed} (h:l[k]? = some x):(l.take (k+1)).map (·.zone.apex)=(l.take k).map (·.zone.apex)++[x.zone.apex]:=by rw [take_next h,List.map_append]; rfl
theorem apexP_len (l:List Placed):(setM DV.str (l.map (·.zone.apex))).length=apexP l:=by
 have:=setM_len keyEq_text (l.map (·.zone.apex)) _ (Nat.le_refl _)
 rwa [List.take_length] at this
theorem validCopies_p (hosts:List Host) (l:List Placed) (a:RSet) (hints:List Int) (hz:∀ p∈l,p.zone.Fits):PCalls E 116 [DV.agg [.sl (hosts.map Host.enc),.sl (l.map Placed.enc),.str a.name,.int .i64 a.type,.int .i64 a.life,.sl (a.data.map Datum.enc),.sl (hints.map (.int .i64))]] (· = .bool (placesB hosts.length l)):=by
 refine eP Tryz.func116 ?_;refine caseB_split (fun h1=>?_) (fun h1=>?_)
 ·refine gO Tryz.func116 ?_;have:placesB hosts.length l=false:=by simp [placesB]; simp at h1; omega
  rw [this]
 have hlen:l.length≤4000:=by simp at h1; omega
 refine gO Tryz.func116 ?_;refine gO Tryz.func116 ?_;refine gO Tryz.func116 ?_;refine AWL.loop (κ:=Nat) ([2,6,7]++rg 17 39) (fun k=>[(17,.d (.int .i64 k)),(2,.d (.bool false)),(3,.map 1),(4,.map 2)]) (fun k=>[(1,.map (setM Spot.en ((l.take k).map Placed.spot))),(2,.map (setM DV.str ((l.take k).map (·.zone.apex))))]) (fun k=>k≤l.length∧(l.take k).all (placedOK hosts.length)=true∧((l.take k).map Placed.spot).Nodup) (fun k=>l.length - k) 0 ⟨Nat.zero_le _,rfl,by simp⟩ ?_ ?_
 ·(conv=>whnf);repeat (first | exact trivial | (refine sI ?_; conv=>whnf))
  refine And.intro rfl ?_;(conv=>whnf);repeat (first | exact trivial | (refine sI ?_; conv=>whnf))
  refine And.intro rfl ?_;(conv=>whnf);repeat (first | exact trivial | (refine sI ?_; conv=>whnf))
 rintro i ⟨hi,hall,hnd⟩ IH;refine AWL.head E_ok Tryz.func116 2000 ?_;(conv=>whnf);refine caseB_split (fun h5=>?_) (fun h5=>?_)
 ·have hlt:i<l.length:=by simpa using h5
  obtain ⟨x,hx⟩:=some_of_lt hlt;have hzf:=hz x (List.mem_of_getElem? hx);have hkeys:=(setM_ok keyEq_spot ((l.take i).map Placed.spot)).1;have hkeyt:=(setM_ok keyEq_text ((l.take i).map (·.zone.apex))).1;obtain ⟨hf1,hf2⟩:=setM_has keyEq_spot ((l.take i).map Placed.spot) x.spot;refine gO Tryz.func116 ?_;refine elemP_at (e:=x.enc) (at_map hx) rfl ?_;refine gO Tryz.func116 ?_;refine caseB_split (fun h6=>?_) (fun h6=>?_)
  ·repeat' (first | with_reducible refine cY ?_ | with_reducible refine cN ?_ | with_reducible refine caseB_split (fun _=>?_) (fun _=>?_) | refine gA Tryz.func116 ?_ | refine gB ?_ | refine gC ?_ | with_reducible rfl)
   rw [places_no (all_no hx (by simp [placedOK]; simp at h6; omega))]
  refine gO Tryz.func116 ?_;refine caseB_split (fun h7=>?_) (fun h7=>?_)
  ·repeat' (first | with_reducible refine cY ?_ | with_reducible refine cN ?_ | with_reducible refine caseB_split (fun _=>?_) (fun _=>?_) | refine gA Tryz.func116 ?_ | refine gB ?_ | refine gC ?_ | with_reducible rfl)
   rw [places_no (all_no hx (by simp [placedOK]; simp at h7; omega))]
  refine gO Tryz.func116 ?_;refine lookP_intro (.bool false) (.bool false) ⟨_,rfl,rfl,⟨_,rfl,_,rfl⟩,rfl,⟨_,rfl,_,rfl⟩,trivial⟩ (fit_pairs hkeys) (fun w=>by kernel_rfl) (fun _ _ => .bool _) hf1 hf2 ?_;refine gO Tryz.func116 ?_;refine caseB_split (fun h8=>?_) (fun h8=>?_)
  ·repeat' (first | with_reducible refine cY ?_ | with_reducible refine cN ?_ | with_reducible refine caseB_split (fun _=>?_) (fun _=>?_) | refine gA Tryz.func116 ?_ | refine gB ?_ | refine gC ?_ | with_reducible rfl)
   have:=spot_twice hx (by simpa using h8);simp [placesB,this]
  refine gO Tryz.func116 ?_
  with_reducible refine callP_eq (zvalid_p x.zone hzf) ?_
  refine gO Tryz.func116 ?_;cases hzr:zoneR x.zone
  ·repeat' (first | with_reducible refine cY ?_ | with_reducible refine cN ?_ | with_reducible refine caseB_split (fun _=>?_) (fun _=>?_) | refine gA Tryz.func116 ?_ | refine gB ?_ | refine gC ?_ | with_reducible rfl)
   rw [places_no (all_no hx (by simp [placedOK,hzr]))]
  refine caseB_false ?_;refine gO Tryz.func116 ?_;have hok:placedOK hosts.length x=true:=by simp [placedOK,hzr]; simp at h6 h7; omega
  refine need_intro ⟨⟨_,rfl,rfl,⟨_,rfl,_,rfl⟩,rfl,⟨_,rfl,_,rfl⟩,trivial⟩,fit_pairs hkeys⟩ ?_;refine gO Tryz.func116 ?_;refine need_intro ⟨⟨_,rfl⟩,hkeyt⟩ ?_;refine gO Tryz.func116 ?_;refine AWL.back (IH (i+1) ⟨by omega,all_next hall hx hok,spots_nodup hx hnd (by simpa using h8)⟩ (by omega)) ?_;rw [spots_next hx,setM_snoc,apexP_next hx,setM_snoc];(conv=>whnf);repeat (first | exact trivial | (refine sI ?_; conv=>whnf))
  refine And.intro rfl ?_;(conv=>whnf);repeat (first | exact trivial | (refine sI ?_; conv=>whnf))
 ·have hge:l.length≤i:=by simpa using h5
  rw [List.take_of_length_le hge] at hall hnd ⊢;refine gO Tryz.func116 ?_;refine gO Tryz.func116 ?_;have:=apexP_len l;rw [this];simp [placesB,hall,hnd,hlen];omega
theorem worldValid_p (w:Wld) (hf:w.Fits):PCalls E 83 [w.enc] (· = .bool (worldB w)):=by
 obtain ⟨hosts,zones,anchor,hints⟩:=w;obtain ⟨f1,f2,f3,f4⟩:=hf;simp only at f1 f2 f3 f4;show PCalls E _ [DV.agg [.sl (hosts.map Host.enc),.sl (zones.map Placed.enc),.str anchor.name,.int .i64 anchor.type,.int .i64 anchor.life,.sl (anchor.data.map Datum.enc),.sl (hints.map (.int .i64))]] _;refine eP Tryz.func83 ?_;repeat' (first | with_reducible refine callP_eq (validHosts_p hosts f1) ?_ | with_reducible refine callP1_eq (validHosts_p hosts f1) ?_ | with_reducible refine callP_eq (validCopies_p hosts zones anchor hints f4) ?_ | with_reducible refine callP1_eq (validCopies_p hosts zones anchor hints f4) ?_ | with_reducible refine callP_eq (validRoot_p anchor hints f2 f3) ?_ | with_reducible refine callP1_eq (validRoot_p anchor hints f2 f3) ?_ | with_reducible refine cY ?_ | with_reducible refine cN ?_ | with_reducible refine caseB_split (fun _=>?_) (fun _=>?_) | refine gA Tryz.func83 ?_ | refine gB ?_ | refine gC ?_ | with_reducible rfl)
 all_goals simp_all [worldB]
theorem rworldValid_p (w:Wld) (hf:w.Fits) (hh:w.hints.length≤1000000):PCalls E 42 [w.enc] (· = .bool (worldB w)):=by
 obtain ⟨hosts,l,anchor,hints⟩:=w;obtain ⟨f1,f2,f3,hz⟩:=hf;simp only at f1 f2 f3 hz hh;show PCalls E _ [DV.agg [.sl (hosts.map Host.enc),.sl (l.map Placed.enc),.str anchor.name,.int .i64 anchor.type,.int .i64 anchor.life,.sl (anchor.data.map Datum.enc),.sl (hints.map (.int .i64))]] _;have hw:worldB ⟨hosts,l,anchor,hints⟩=(hostsB hosts&&placesB hosts.length l&&rootB anchor hints):=rfl;rw [hw];refine eP Tryz.func42 ?_
 with_reducible refine callP_eq (rhosts_p hosts f1) ?_
 refine gO Tryz.func42 ?_;cases h1:hostsB hosts
 ·repeat' (first | with_reducible refine cY ?_ | with_reducible refine cN ?_ | with_reducible refine caseB_split (fun _=>?_) (fun _=>?_) | refine gA Tryz.func42 ?_ | refine gB ?_ | refine gC ?_ | with_reducible rfl)
  all_goals simp
 refine caseB_false ?_;refine gO Tryz.func42 ?_;refine caseB_split (fun h2=>?_) (fun h2=>?_)
 ·repeat' (first | with_reducible refine cY ?_ | with_reducible refine cN ?_ | with_reducible refine caseB_split (fun _=>?_) (fun _=>?_) | refine gA Tryz.func42 ?_ | refine gB ?_ | refine gC ?_ | with_reducible rfl)
  have:placesB hosts.length l=false:=by simp [placesB]; simp at h2; omega
  simp [this]
 have hlen:l.length≤4000:=by simp at h2; omega
 refine gO Tryz.func42 ?_
 with_reducible refine callP_eq (rroots_p anchor hints f2 hh) ?_
 refine gO Tryz.func42 ?_;cases h3:rootB anchor hints
 ·repeat' (first | with_reducible refine cY ?_ | with_reducible refine cN ?_ | with_reducible refine caseB_split (fun _=>?_) (fun _=>?_) | refine gA Tryz.func42 ?_ | refine gB ?_ | refine gC ?_ | with_reducible rfl)
  all_goals simp
 refine caseB_false ?_;refine gO Tryz.func42 ?_;rw [Bool.true_and,Bool.and_true];refine AWL.loop (κ:=Nat) (rg 2 5++rg 25 57) (fun k=>[(3,.d (.int .i64 k)),(2,.d (.bool false))]) (fun _=>[]) (fun k=>k≤l.length∧(l.take k).all (placedOK hosts.length)=true∧((l.take k).map Placed.spot).Nodup) (fun k=>l.length - k) 0 ⟨Nat.zero_le _,rfl,by simp⟩ ?_ ?_
 ·(conv=>whnf);repeat (first | exact trivial | (refine sI ?_; conv=>whnf))
 rintro i ⟨hi,hall,hnd⟩ IH;refine AWL.head E_ok Tryz.func42 2000 ?_;(conv=>whnf);refine caseB_split (fun h5=>?_) (fun h5=>?_)
 ·have hlt:i<l.length:=by simpa using h5
  obtain ⟨x,hx⟩:=some_of_lt hlt;have hzf:=hz x (List.mem_of_getElem? hx);refine gO Tryz.func42 ?_;refine elemP_at (e:=x.enc) (at_map hx) rfl ?_;refine gO Tryz.func42 ?_
  with_reducible refine callP_eq (rzone_p x.zone hzf) ?_
  refine gO Tryz.func42 ?_;cases hzr:zoneR x.zone
  ·repeat' (first | with_reducible refine cY ?_ | with_reducible refine cN ?_ | with_reducible refine caseB_split (fun _=>?_) (fun _=>?_) | refine gA Tryz.func42 ?_ | refine gB ?_ | refine gC ?_ | with_reducible rfl)
   rw [places_no (all_no hx (by simp [placedOK,hzr]))]
  refine caseB_false ?_;refine gO Tryz.func42 ?_;refine caseB_split (fun h6=>?_) (fun h6=>?_)
  ·repeat' (first | with_reducible refine cY ?_ | with_reducible refine cN ?_ | with_reducible refine caseB_split (fun _=>?_) (fun _=>?_) | refine gA Tryz.func42 ?_ | refine gB ?_ | refine gC ?_ | with_reducible rfl)
   rw [places_no (all_no hx (by simp [placedOK]; simp at h6; omega))]
  refine gO Tryz.func42 ?_;refine caseB_split (fun h7=>?_) (fun h7=>?_)
  ·repeat' (first | with_reducible refine cY ?_ | with_reducible refine cN ?_ | with_reducible refine caseB_split (fun _=>?_) (fun _=>?_) | refine gA Tryz.func42 ?_ | refine gB ?_ | refine gC ?_ | with_reducible rfl)
   rw [places_no (all_no hx (by simp [placedOK]; simp at h7; omega))]
  have hok:placedOK hosts.length x=true:=by simp [placedOK,hzr]; simp at h6 h7; omega
  refine gO Tryz.func42 ?_;refine AWL.loop (κ:=Nat) ([2,6]++rg 55 27) (fun k=>[(6,.d (.int .i64 k)),(2,.d (.bool false))]) (fun _=>[]) (fun k=>k≤i∧∀ m y,m<k→l[m]? = some y→y.spot≠x.spot) (fun k=>i - k) 0 ⟨Nat.zero_le _,fun m y h=>by omega⟩ ?_ ?_
  ·(conv=>whnf);repeat (first | exact trivial | (refine sI ?_; conv=>whnf))
  rintro k ⟨hk,hne⟩ IH2;refine AWL.head E_ok Tryz.func42 2000 ?_;(conv=>whnf);refine caseB_split (fun h9=>?_) (fun h9=>?_)
  ·have hlt2:k<i:=by simpa using h9
   obtain ⟨y,hy⟩:=some_of_lt (l:=l) (k:=k) (by omega);refine gO Tryz.func42 ?_;refine AWL.draw E_ok E_mixed 22 2000 (by kernel_rfl) ?_;(conv=>whnf);refine elemP_at (e:=y.enc) (at_map hy) rfl ?_;refine gD ?_;refine caseB_split (fun h10=>?_) (fun h10=>?_)
   ·have e1:y.host=x.host:=by simpa using h10
    refine gD ?_;refine elemP_at (e:=y.enc) (at_map hy) rfl ?_;refine gD ?_;refine gS ?_;refine gO Tryz.func42 ?_;refine caseB_split (fun h11=>?_) (fun h11=>?_)
    ·refine gO Tryz.func42 ?_;have e2:y.zone.apex=x.zone.apex:=by simpa using h11
     have hm:x.spot∈(l.take i).map Placed.spot:=List.mem_map.2 ⟨y,List.mem_of_getElem? (i:=k) (by rw [List.getElem?_take,if_pos hlt2]; exact hy),by simp [Placed.spot,e1,e2]⟩;have:=spot_twice hx hm;simp [placesB,this]
    ·have e2:y.zone.apex≠x.zone.apex:=by simpa using h11
     refine gO Tryz.func42 ?_;refine AWL.back (IH2 (k+1) ⟨by omega,fun m z hm hz2=>?_⟩ (by omega)) ?_
     ·by_cases hmk:m=k
      ·subst hmk; rw [hy] at hz2; cases hz2; exact fun e=>e2 (congrArg Prod.snd e)
      ·exact hne m z (by omega) hz2
     ·(conv=>whnf);repeat (first | exact trivial | (refine sI ?_; conv=>whnf))
   ·have e1:y.host≠x.host:=by simpa using h10
    refine gD ?_;refine gS ?_;refine gO Tryz.func42 ?_;refine caseB_false ?_;refine gO Tryz.func42 ?_;refine AWL.back (IH2 (k+1) ⟨by omega,fun m z hm hz2=>?_⟩ (by omega)) ?_
    ·by_cases hmk:m=k
     ·subst hmk; rw [hy] at hz2; cases hz2; exact fun e=>e1 (congrArg Prod.fst e)
     ·exact hne m z (by omega) hz2
    ·(conv=>whnf);repeat (first | exact trivial | (refine sI ?_; conv=>whnf))
  ·have hge2:i≤k:=by simpa using h9
   refine gO Tryz.func42 ?_;refine AWL.back (IH (i+1) ⟨by omega,all_next hall hx hok,spots_nodup hx hnd (fun hm=>?_)⟩ (by omega)) ?_
   ·obtain ⟨y,hy,e⟩:=List.mem_map.1 hm;obtain ⟨m,hm⟩:=List.getElem?_of_mem hy;rw [List.getElem?_take] at hm;split at hm
    ·exact hne m y (by omega) hm e
    ·cases hm
   ·(conv=>whnf);repeat (first | exact trivial | (refine sI ?_; conv=>whnf))
 ·have hge:l.length≤i:=by simpa using h5
  rw [List.take_of_length_le hge] at hall hnd;refine gO Tryz.func42 ?_
  with_reducible refine callP_eq (rapexes16_p l (by omega)) ?_
  refine gO Tryz.func42 ?_;simp [placesB,hall,hnd,hlen,apexP];rw [Bool.eq_iff_iff];simp;exact ⟨fun h=>decide_eq_true (by omega),fun h=>by have:=of_decide_eq_true h; omega⟩
end Go.Proofs.YtajnanldmhpeaaaGreatDoor.P
