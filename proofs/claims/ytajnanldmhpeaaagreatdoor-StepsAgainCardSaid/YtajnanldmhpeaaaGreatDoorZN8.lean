/- Several texts of mine, one behind the other. Conditions: as each says. -/
import Derived.Test.YtajnanldmhpeaaaGreatDoorZN7
import Derived.Test.YtajnanldmhpeaaaGreatDoorZN1
set_option linter.unusedVariables false
set_option linter.unusedSimpArgs false
section
namespace Go.Proofs.YtajnanldmhpeaaaGreatDoor.P
open Go Go.Eng
set_option maxRecDepth 100000
set_option maxHeartbeats 4000000
theorem star_eq (t:Text):wildL t=((t==[42])||preB t [42,46]):=by
 unfold wildL Nm.labels preB;by_cases hr:t=[46]
 ·subst hr; rfl
 rw [if_neg hr];cases t with
 |nil=>rfl
 |cons c r =>
  by_cases hc:c=46
  ·subst hc;simp [Nm.split];show ((42:UInt8)==46&&_)=false;rfl
  ·cases r with
   |nil=>simp [Nm.split,hc]
   |cons d r' =>
    by_cases hd:d=46
    ·subst hd;simp [Nm.split,hc];rw [Bool.eq_iff_iff];simp;exact eq_comm
    ·obtain ⟨x,u,h1,h2⟩:=Nm.split_cons d r' hd;have h3:Nm.split (c::d::r')=(c::d::x)::u:=by
      rw [Nm.split,if_neg hc,h2]
     rw [h3];have:(d==46)=false:=by simpa using hd
     have h46:((46:UInt8)==d)=false:=by simpa using fun e=>hd e.symm
     simp;show ((42:UInt8)==c&&((46:UInt8)==d&&_))=false;rw [h46];simp
def stopB (z:Zone):Bool:=z.sets.isEmpty && !wildL z.apex&&Nm.valid z.apex
def Placed.spot (p:Placed):Spot:=(p.host,p.zone.apex)
def putOK (hosts:Nat) (p:Placed):Bool:=decide (0≤p.host)&&decide (p.host<hosts)&&(stopB p.zone||zoneR p.zone)
def stageB (hosts:Nat) (s:Stage):Bool:=decide (s.puts.length≤500)&&s.puts.all (putOK hosts)&&decide ((s.puts.map Placed.spot).Nodup)
def stepOK (hosts:Nat) (fin:Int) (s:Step):Bool:=decide (0≤s.time)&&decide (s.time<fin)&&stageB hosts s.stage
def stepLt (a b:Step):Bool:=decide (a.time<b.time)
def stepsB (h:History) (l:List Step):Bool:=decide (l.length≤400)&&chain (stepOK h.hosts.length h.fin) stepLt none l
def validS (h:History) (l:List Step):Bool:=histB h&&stepsB h l
structure Stage.Fits (s:Stage):Prop where
 zones:∀ p∈s.puts,p.zone.Fits
 few:s.puts.length≤1000000
theorem isStop_p (z:Zone) (hf:z.Fits):PCalls E 63 [z.enc] (· = .bool (stopB z)):=by
 have e:stopB z=(z.sets.isEmpty && !((z.apex==[42])||preB z.apex [42,46])&&Nm.valid z.apex):=by rw [stopB,star_eq]
 have e2:z.sets.isEmpty=(((z.sets.map Signed.enc).length:Int)==0):=by
  rw [Bool.eq_iff_iff];simp [List.isEmpty_iff]
 refine eP Tryz.func63 ?_;repeat' (first | with_reducible refine callP_eq (hasPrefix_p z.apex [42,46]) ?_ | with_reducible refine callP1_eq (hasPrefix_p z.apex [42,46]) ?_ | with_reducible refine callP_eq (nvalid_p z.apex hf.apex) ?_ | with_reducible refine callP1_eq (nvalid_p z.apex hf.apex) ?_ | with_reducible refine cY ?_ | with_reducible refine cN ?_ | with_reducible refine caseB_split (fun _=>?_) (fun _=>?_) | refine gA Tryz.func63 ?_ | refine gB ?_ | refine gC ?_ | with_reducible rfl)
 all_goals
  rw [e,e2];clear e e2
  congr 1
  simp_all
theorem zoneR_sets {z:Zone} (h:zoneR z=true):z.sets≠[]:=fun e=>by
 simp only [zoneR,twoB,Bool.and_eq_true] at h;simp [e,atI] at h
theorem spots_next {l:List Placed} {k:Nat} {x:Placed} (h:l[k]? = some x):(l.take (k+1)).map Placed.spot=(l.take k).map Placed.spot++[x.spot]:=by
 rw [take_next h,List.map_append]; rfl
theorem spot_twice {l:List Placed} {i:Nat} {x:Placed} (hx:l[i]? = some x) (h:x.spot∈(l.take i).map Placed.spot):¬ (l.map Placed.spot).Nodup:=fun hn=>by
 obtain ⟨y,hy,e⟩:=List.mem_map.1 h;obtain ⟨m,hm⟩:=List.getElem?_of_mem hy;rw [List.getElem?_take] at hm;split at hm
 ·rename_i hmi;have h1:(l.map Placed.spot)[i]? = some x.spot:=by simp [hx]
  have h2:(l.map Placed.spot)[m]? = some x.spot:=by simp [hm,e]
  have:=nodup_at hn h1 h2;omega
 ·cases hm
theorem spots_nodup {l:List Placed} {i:Nat} {x:Placed} (hx:l[i]? = some x) (h:((l.take i).map Placed.spot).Nodup) (hn:x.spot ∉ (l.take i).map Placed.spot):((l.take (i+1)).map Placed.spot).Nodup:=by
 rw [spots_next hx,List.nodup_append];exact ⟨h,by simp,fun a ha b hb e=>by simp at hb; subst hb; subst e; exact hn ha⟩
theorem fit_pairs {es:List (DV × DV)} (h:KeysIn Spot.en es):∀ p∈es,FitK E.T (TK.struct [(0,3),(1,9)]) p.1:=fun p hp=>by
 obtain ⟨a,e⟩:=h p hp;rw [e];exact fit_spot a
theorem stage_no {l:List Placed} {n:Nat} (h:l.all (putOK n)=false):stageB n ⟨l⟩=false:=by simp [stageB,h]
theorem stageOK_p (s:Stage) (n:Nat) (hf:s.Fits):PCalls E 84 [s.enc,.int .i64 n] (· = .bool (stageB n s)):=by
 obtain ⟨l⟩:=s;obtain ⟨hz,hl⟩:=hf;simp only at hz hl;show PCalls E _ [DV.agg [.sl (l.map Placed.enc)],.int .i64 n] _;refine eP Tryz.func84 ?_;refine caseB_split (fun h1=>?_) (fun h1=>?_)
 ·refine gO Tryz.func84 ?_;have:stageB n ⟨l⟩=false:=by simp [stageB]; simp at h1; omega
  rw [this]
 have hlen:l.length≤500:=by simp at h1; omega
 refine gO Tryz.func84 ?_;refine gO Tryz.func84 ?_;refine AWL.loop (κ:=Nat) ([4,7,8]++rg 17 39) (fun k=>[(17,.d (.int .i64 k)),(4,.d (.bool false)),(5,.map 1)]) (fun k=>[(1,.map (setM Spot.en ((l.take k).map Placed.spot)))]) (fun k=>k≤l.length∧(l.take k).all (putOK n)=true∧((l.take k).map Placed.spot).Nodup) (fun k=>l.length - k) 0 ⟨Nat.zero_le _,rfl,by simp⟩ ?_ ?_
 ·(conv=>whnf);repeat (first | exact trivial | (refine sI ?_; conv=>whnf))
  refine And.intro rfl ?_;(conv=>whnf);repeat (first | exact trivial | (refine sI ?_; conv=>whnf))
 rintro i ⟨hi,hall,hnd⟩ IH;refine AWL.head E_ok Tryz.func84 2000 ?_;(conv=>whnf);refine caseB_split (fun h5=>?_) (fun h5=>?_)
 ·have hlt:i<l.length:=by simpa using h5
  obtain ⟨x,hx⟩:=some_of_lt hlt;have hzf:=hz x (List.mem_of_getElem? hx);have hkeys:=(setM_ok keyEq_spot ((l.take i).map Placed.spot)).1;obtain ⟨hf1,hf2⟩:=setM_has keyEq_spot ((l.take i).map Placed.spot) x.spot;have hsp:Spot.en x.spot = .agg [.int .i64 x.host,.str x.zone.apex]:=rfl;refine gO Tryz.func84 ?_;refine elemP_at (e:=x.enc) (at_map hx) rfl ?_;refine gO Tryz.func84 ?_;refine caseB_split (fun h6=>?_) (fun h6=>?_)
  ·repeat' (first | with_reducible refine cY ?_ | with_reducible refine cN ?_ | with_reducible refine caseB_split (fun _=>?_) (fun _=>?_) | refine gA Tryz.func84 ?_ | refine gB ?_ | refine gC ?_ | with_reducible rfl)
   rw [stage_no (all_no hx (by simp [putOK]; simp at h6; omega))]
  refine gO Tryz.func84 ?_;refine caseB_split (fun h7=>?_) (fun h7=>?_)
  ·repeat' (first | with_reducible refine cY ?_ | with_reducible refine cN ?_ | with_reducible refine caseB_split (fun _=>?_) (fun _=>?_) | refine gA Tryz.func84 ?_ | refine gB ?_ | refine gC ?_ | with_reducible rfl)
   rw [stage_no (all_no hx (by simp [putOK]; simp at h7; omega))]
  refine gO Tryz.func84 ?_;refine lookP_intro (.bool false) (.bool false) ⟨_,rfl,rfl,⟨_,rfl,_,rfl⟩,rfl,⟨_,rfl,_,rfl⟩,trivial⟩ (fit_pairs hkeys) (fun w=>by kernel_rfl) (fun _ _ => .bool _) hf1 hf2 ?_;refine gO Tryz.func84 ?_;refine caseB_split (fun h8=>?_) (fun h8=>?_)
  ·repeat' (first | with_reducible refine cY ?_ | with_reducible refine cN ?_ | with_reducible refine caseB_split (fun _=>?_) (fun _=>?_) | refine gA Tryz.func84 ?_ | refine gB ?_ | refine gC ?_ | with_reducible rfl)
   have:=spot_twice hx (by simpa using h8);simp [stageB,this]
  repeat' (first | with_reducible refine callP_eq (isStop_p x.zone hzf) ?_ | with_reducible refine callP1_eq (isStop_p x.zone hzf) ?_ | with_reducible refine callP_eq (zvalid_p x.zone hzf) ?_ | with_reducible refine callP1_eq (zvalid_p x.zone hzf) ?_ | with_reducible refine cY ?_ | with_reducible refine cN ?_ | with_reducible refine caseB_split (fun _=>?_) (fun _=>?_) | refine gA Tryz.func84 ?_ | refine gB ?_ | refine gC ?_ | with_reducible rfl)
  all_goals try (rw [stage_no (all_no hx (by simp_all [putOK]))]; done)
  all_goals
   have hok:putOK n x=true:=by simp_all [putOK]
   refine need_intro ⟨⟨_,rfl,rfl,⟨_,rfl,_,rfl⟩,rfl,⟨_,rfl,_,rfl⟩,trivial⟩,fit_pairs hkeys⟩ ?_;refine gO Tryz.func84 ?_;refine AWL.back (IH (i+1) ⟨by omega,all_next hall hx hok,spots_nodup hx hnd (by simpa using h8)⟩ (by omega)) ?_;rw [spots_next hx,setM_snoc];(conv=>whnf);repeat (first | exact trivial | (refine sI ?_; conv=>whnf))
   refine And.intro rfl ?_;(conv=>whnf);repeat (first | exact trivial | (refine sI ?_; conv=>whnf))
 ·have hge:l.length≤i:=by simpa using h5
  rw [List.take_of_length_le hge] at hall hnd;refine gO Tryz.func84 ?_;simp [stageB,hall,hnd,hlen]
def lastT (l:List Step) (k:Nat):Int:=match prevA l k with
 |none => -1
 |some q=>q.time
theorem prevA_next {l:List Step} {k:Nat} {x:Step} (h:l[k]? = some x):prevA l (k+1)=some x:=by simp [prevA,h]
structure Steps.Fits (l:List Step):Prop where
 each:∀ s∈l,s.stage.Fits
 few:l.length≤1000000
theorem stepsOK_p (h:History) (l:List Step) (hf:Steps.Fits l):PCalls E 104 [h.enc,.sl (l.map Step.enc)] (· = .bool (stepsB h l)):=by
 obtain ⟨hosts,copies,anchor,hints,drift,fin⟩:=h;obtain ⟨hz,hl⟩:=hf;show PCalls E _ [DV.agg [.sl (hosts.map Host.enc),.sl (copies.map Copy.enc),.str anchor.name,.int .i64 anchor.type,.int .i64 anchor.life,.sl (anchor.data.map Datum.enc),.sl (hints.map (.int .i64)),.int .i64 drift,.int .i64 fin],_] _;refine eP Tryz.func104 ?_;refine caseB_split (fun h1=>?_) (fun h1=>?_)
 ·refine gO Tryz.func104 ?_;have:stepsB ⟨hosts,copies,anchor,hints,drift,fin⟩ l=false:=by simp [stepsB]; simp at h1; omega
  rw [this]
 have hlen:l.length≤400:=by simp at h1; omega
 have hval:stepsB ⟨hosts,copies,anchor,hints,drift,fin⟩ l=chain (stepOK hosts.length fin) stepLt none l:=by simp [stepsB,hlen]
 rw [hval];refine gO Tryz.func104 ?_;refine AWL.loop (κ:=Nat) ([4,5,7]++rg 13 27) (fun k=>[(13,.d (.int .i64 k)),(4,.d (.bool false)),(5,.d (.int .i64 (lastT l k)))]) (fun _=>[]) (fun k=>k≤l.length∧chain (stepOK hosts.length fin) stepLt none l=chain (stepOK hosts.length fin) stepLt (prevA l k) (l.drop k)∧∀ q,prevA l k=some q→0≤q.time) (fun k=>l.length - k) 0 ⟨Nat.zero_le _,rfl,fun q h=>by simp [prevA] at h⟩ ?_ ?_
 ·(conv=>whnf);repeat (first | exact trivial | (refine sI ?_; conv=>whnf))
  refine And.intro rfl ?_;(conv=>whnf);repeat (first | exact trivial | (refine sI ?_; conv=>whnf))
 rintro i ⟨hi,hch,hpos⟩ IH;refine AWL.head E_ok Tryz.func104 2000 ?_;(conv=>whnf);refine caseB_split (fun h5=>?_) (fun h5=>?_)
 ·have hlt:i<l.length:=by simpa using h5
  obtain ⟨x,hx⟩:=some_of_lt hlt;have hzf:=hz x (List.mem_of_getElem? hx);have hnext:=chain_next (ok:=stepOK hosts.length fin) (rel:=stepLt) hx;have hst:=stageOK_p x.stage (hosts.map Host.enc).length hzf;rw [show stageB (hosts.map Host.enc).length x.stage=stageB hosts.length x.stage by rw [List.length_map]] at hst;have hC:=hch.trans hnext;refine gO Tryz.func104 ?_;refine elemP_at (e:=x.enc) (at_map hx) rfl ?_;refine gO Tryz.func104 ?_;refine caseB_split (fun h6=>?_) (fun h6=>?_)
  ·repeat' (first | with_reducible refine cY ?_ | with_reducible refine cN ?_ | with_reducible refine caseB_split (fun _=>?_) (fun _=>?_) | refine gA Tryz.func104 ?_ | refine gB ?_ | refine gC ?_ | with_reducible rfl)
   have h6':x.time≤lastT l i:=by simpa using h6
   cases hq:prevA l i with
   |none =>
    simp only [lastT,hq] at h6';have:stepOK hosts.length fin x=false:=by simp [stepOK]; omega
    rw [hC];simp [this]
   |some q =>
    simp only [lastT,hq] at h6';have:stepLt q x=false:=by simp [stepLt]; omega
    rw [hC,hq];simp [this]
  have h6':lastT l i<x.time:=by simpa using h6
  have hx0:0≤x.time:=by
   cases hq:prevA l i with
   |none=>simp only [lastT,hq] at h6'; omega
   |some q=>have:=hpos q hq; simp only [lastT,hq] at h6'; omega
  have hC2:chain (stepOK hosts.length fin) stepLt none l=(stepOK hosts.length fin x&&chain (stepOK hosts.length fin) stepLt (prevA l (i+1)) (l.drop (i+1))):=by
   rw [hC];cases hq:prevA l i with
   |none=>simp
   |some q=>simp only [lastT,hq] at h6'; simp [stepLt,h6']
  refine gO Tryz.func104 ?_;repeat' (first | with_reducible refine callP_eq (hst) ?_ | with_reducible refine callP1_eq (hst) ?_ | with_reducible refine cY ?_ | with_reducible refine cN ?_ | with_reducible refine caseB_split (fun _=>?_) (fun _=>?_) | refine gA Tryz.func104 ?_ | refine gB ?_ | refine gC ?_ | with_reducible rfl)
  all_goals try
   (have hno : stepOK hosts.length fin x = false := by (simp_all [stepOK] <;> omega)
    rw [hC2, hno]; simp; done)
  have hok:stepOK hosts.length fin x=true:=by (simp_all [stepOK] <;> omega)
  refine gO Tryz.func104 ?_;refine AWL.back (IH (i+1) ⟨by omega,?_,fun q hq=>by rw [prevA_next hx] at hq; cases hq; exact hx0⟩ (by omega)) ?_
  ·rw [hC2,hok]; rfl
  ·(conv=>whnf);repeat (first | exact trivial | (refine sI ?_; conv=>whnf))
   refine And.intro (by simp [lastT,prevA_next hx]) ?_;(conv=>whnf);repeat (first | exact trivial | (refine sI ?_; conv=>whnf))
 ·have hge:l.length≤i:=by simpa using h5
  rw [List.drop_eq_nil_of_le hge] at hch;refine gO Tryz.func104 ?_;rw [hch];rfl
theorem svalid_p (h:History) (l:List Step) (hf:h.Fits) (hk1:h.copies.length≤1000000) (hg:Steps.Fits l):PCalls E 51 [h.enc,.sl (l.map Step.enc)] (· = .bool (validS h l)):=by
 have h1:=hvalid_p h hf hk1;have h2:=stepsOK_p h l hg;refine eP Tryz.func51 ?_;repeat' (first | with_reducible refine callP_eq (h1) ?_ | with_reducible refine callP1_eq (h1) ?_ | with_reducible refine callP_eq (h2) ?_ | with_reducible refine callP1_eq (h2) ?_ | with_reducible refine cY ?_ | with_reducible refine cN ?_ | with_reducible refine caseB_split (fun _=>?_) (fun _=>?_) | refine gA Tryz.func51 ?_ | refine gB ?_ | refine gC ?_ | with_reducible rfl)
 all_goals simp_all [validS]
end Go.Proofs.YtajnanldmhpeaaaGreatDoor.P
end
section
namespace Go.Proofs.YtajnanldmhpeaaaGreatDoor.P
open Go Go.Eng
set_option maxRecDepth 100000
set_option maxHeartbeats 4000000
theorem rstop_p (p:Placed):PCalls E 45 [p.enc] (· = .bool p.zone.sets.isEmpty):=by
 refine eP Tryz.func45 ?_
 congr 1
 rw [Bool.eq_iff_iff];simp [List.isEmpty_iff]
theorem rsameP_p (a b:Placed):PCalls E 87 [a.enc,b.enc] (· = .bool (decide (a.spot=b.spot))):=by
 refine eP Tryz.func87 ?_;repeat' (first | with_reducible refine cY ?_ | with_reducible refine cN ?_ | with_reducible refine caseB_split (fun _=>?_) (fun _=>?_) | refine gA Tryz.func87 ?_ | refine gB ?_ | refine gC ?_ | with_reducible rfl)
 all_goals
  congr 1
  simp_all [Placed.spot];try (rw [Bool.eq_iff_iff]; simp)
theorem rstage_p (s:Stage) (n:Nat) (hf:s.Fits):PCalls E 43 [.int .i64 n,s.enc] (· = .bool (stageB n s)):=by
 obtain ⟨l⟩:=s;obtain ⟨hz,hl⟩:=hf;simp only at hz hl;show PCalls E _ [.int .i64 n,DV.agg [.sl (l.map Placed.enc)]] _;refine eP Tryz.func43 ?_;refine AWL.loop (κ:=Nat) (rg 4 65) (fun k=>[(5,.d (.int .i64 k)),(4,.d (.bool false))]) (fun _=>[]) (fun k=>k≤l.length∧(l.take k).all (putOK n)=true∧((l.take k).map Placed.spot).Nodup) (fun k=>l.length - k) 0 ⟨Nat.zero_le _,rfl,by simp⟩ ?_ ?_
 ·(conv=>whnf);repeat (first | exact trivial | (refine sI ?_; conv=>whnf))
 rintro i ⟨hi,hall,hnd⟩ IH;refine AWL.head E_ok Tryz.func43 2000 ?_;(conv=>whnf);refine caseB_split (fun h5=>?_) (fun h5=>?_)
 ·have hlt:i<l.length:=by simpa using h5
  obtain ⟨x,hx⟩:=some_of_lt hlt;have hzf:=hz x (List.mem_of_getElem? hx);have hstop:=rstop_p x;have hval:=rvalid_p x.zone.apex hzf.apex;have hwild:=rwild_p x.zone.apex hzf.apex;have hzone:=rzone_p x.zone hzf;have hwe:Nm.valid x.zone.apex=true→wildL x.zone.apex=Nm.wild x.zone.apex:=wild_eq;have hze:zoneR x.zone=true→x.zone.sets.isEmpty=false:=fun h=>by
   have:=zoneR_sets h;cases hs:x.zone.sets with
   |nil=>exact absurd hs this
   |cons a b=>rfl
  have hput:putOK n x=(decide (0≤x.host)&&decide (x.host<n)&&(if x.zone.sets.isEmpty then Nm.valid x.zone.apex && !Nm.wild x.zone.apex else zoneR x.zone)):=by
   unfold putOK stopB;cases he:x.zone.sets.isEmpty
   ·simp
   ·cases hzr:zoneR x.zone
    ·cases hv:Nm.valid x.zone.apex
     ·simp
     ·simp [hwe hv]
    ·rw [hze hzr] at he; cases he
  refine gO Tryz.func43 ?_;refine elemP_at (e:=x.enc) (at_map hx) rfl ?_;refine gO Tryz.func43 ?_;refine caseB_split (fun h6=>?_) (fun h6=>?_)
  ·repeat' (first | with_reducible refine cY ?_ | with_reducible refine cN ?_ | with_reducible refine caseB_split (fun _=>?_) (fun _=>?_) | refine gA Tryz.func43 ?_ | refine gB ?_ | refine gC ?_ | with_reducible rfl)
   rw [stage_no (all_no hx (by rw [hput]; simp; simp at h6; omega))]
  refine gO Tryz.func43 ?_;refine caseB_split (fun h7=>?_) (fun h7=>?_)
  ·repeat' (first | with_reducible refine cY ?_ | with_reducible refine cN ?_ | with_reducible refine caseB_split (fun _=>?_) (fun _=>?_) | refine gA Tryz.func43 ?_ | refine gB ?_ | refine gC ?_ | with_reducible rfl)
   rw [stage_no (all_no hx (by rw [hput]; simp; simp at h7; omega))]
  have hbase:(decide (0≤x.host)&&decide (x.host<n))=true:=by simp at h6 h7 ⊢; omega
  rw [hbase,Bool.true_and] at hput;refine gO Tryz.func43 ?_;repeat' (first | with_reducible refine callP_eq (hstop) ?_ | with_reducible refine callP1_eq (hstop) ?_ | with_reducible refine callP_eq (hval) ?_ | with_reducible refine callP1_eq (hval) ?_ | with_reducible refine callP_eq (hwild) ?_ | with_reducible refine callP1_eq (hwild) ?_ | with_reducible refine callP_eq (hzone) ?_ | with_reducible refine callP1_eq (hzone) ?_ | with_reducible refine cY ?_ | with_reducible refine cN ?_ | with_reducible refine caseB_split (fun _=>?_) (fun _=>?_) | refine gA Tryz.func43 ?_ | refine gB ?_ | refine gC ?_ | with_reducible rfl)
  all_goals try (rw [stage_no (all_no hx (by rw [hput]; simp_all))]; done)
  all_goals
   have hok:putOK n x=true:=by rw [hput]; simp_all
   refine gO Tryz.func43 ?_;refine AWL.loop (κ:=Nat) ([4,7]++rg 57 12) (fun k=>[(7,.d (.int .i64 k)),(4,.d (.bool false))]) (fun _=>[]) (fun k=>k≤i∧∀ m y,m<k→l[m]? = some y→y.spot≠x.spot) (fun k=>i - k) 0 ⟨Nat.zero_le _,fun m y h=>by omega⟩ ?_ ?_
   ·(conv=>whnf);repeat (first | exact trivial | (refine sI ?_; conv=>whnf))
   rintro k ⟨hk,hne⟩ IH2;refine AWL.head E_ok Tryz.func43 2000 ?_;(conv=>whnf);refine caseB_split (fun h9=>?_) (fun h9=>?_)
   ·have hlt2:k<i:=by simpa using h9
    obtain ⟨y,hy⟩:=some_of_lt (l:=l) (k:=k) (by omega);refine gO Tryz.func43 ?_;refine AWL.draw E_ok E_mixed 7 2000 (by kernel_rfl) ?_;(conv=>whnf);refine elemP_at (e:=y.enc) (at_map hy) rfl ?_;refine gD ?_
    with_reducible refine callP1_eq (rsameP_p y x) ?_
    refine gD ?_;refine gS ?_;refine gO Tryz.func43 ?_;refine caseB_split (fun h10=>?_) (fun h10=>?_)
    ·refine gO Tryz.func43 ?_;have hm:x.spot∈(l.take i).map Placed.spot:=List.mem_map.2 ⟨y,List.mem_of_getElem? (i:=k) (by rw [List.getElem?_take,if_pos hlt2]; exact hy),by simpa using h10⟩;have:=spot_twice hx hm;simp [stageB,this]
    ·refine gO Tryz.func43 ?_;refine AWL.back (IH2 (k+1) ⟨by omega,fun m z hm hz2=>?_⟩ (by omega)) ?_
     ·by_cases hmk:m=k
      ·subst hmk; rw [hy] at hz2; cases hz2; simpa using h10
      ·exact hne m z (by omega) hz2
     ·(conv=>whnf);repeat (first | exact trivial | (refine sI ?_; conv=>whnf))
   ·have hge2:i≤k:=by simpa using h9
    refine gO Tryz.func43 ?_;refine AWL.back (IH (i+1) ⟨by omega,all_next hall hx hok,spots_nodup hx hnd (fun hm=>?_)⟩ (by omega)) ?_
    ·obtain ⟨y,hy,e⟩:=List.mem_map.1 hm;obtain ⟨m,hm⟩:=List.getElem?_of_mem hy;rw [List.getElem?_take] at hm;split at hm
     ·exact hne m y (by omega) hm e
     ·cases hm
    ·(conv=>whnf);repeat (first | exact trivial | (refine sI ?_; conv=>whnf))
 ·have hge:l.length≤i:=by simpa using h5
  rw [List.take_of_length_le hge] at hall hnd;refine gO Tryz.func43 ?_;simp [stageB,hall,hnd];try omega
theorem rsteps_p (h:History) (l:List Step) (hf:Steps.Fits l):PCalls E 50 [h.enc,.sl (l.map Step.enc)] (· = .bool (stepsB h l)):=by
 obtain ⟨hosts,copies,anchor,hints,drift,fin⟩:=h;obtain ⟨hz,hl⟩:=hf;show PCalls E _ [DV.agg [.sl (hosts.map Host.enc),.sl (copies.map Copy.enc),.str anchor.name,.int .i64 anchor.type,.int .i64 anchor.life,.sl (anchor.data.map Datum.enc),.sl (hints.map (.int .i64)),.int .i64 drift,.int .i64 fin],_] _;have hval:stepsB ⟨hosts,copies,anchor,hints,drift,fin⟩ l=(decide (l.length≤400)&&chain (stepOK hosts.length fin) stepLt none l):=rfl;rw [hval];refine eP Tryz.func50 ?_;refine AWL.loop (κ:=Nat) (rg 4 54) (fun k=>[(5,.d (.int .i64 k)),(4,.d (.bool false))]) (fun _=>[]) (fun k=>k≤l.length∧chain (stepOK hosts.length fin) stepLt none l=chain (stepOK hosts.length fin) stepLt (prevA l k) (l.drop k)) (fun k=>l.length - k) 0 ⟨Nat.zero_le _,rfl⟩ ?_ ?_
 ·(conv=>whnf);repeat (first | exact trivial | (refine sI ?_; conv=>whnf))
 rintro i ⟨hi,hch⟩ IH;refine AWL.head E_ok Tryz.func50 2000 ?_;(conv=>whnf);refine caseB_split (fun h5=>?_) (fun h5=>?_)
 ·have hlt:i<l.length:=by simpa using h5
  obtain ⟨x,hx⟩:=some_of_lt hlt;have hzf:=hz x (List.mem_of_getElem? hx);have hnext:=chain_next (ok:=stepOK hosts.length fin) (rel:=stepLt) hx;have hst:=rstage_p x.stage (hosts.map Host.enc).length hzf;rw [show stageB (hosts.map Host.enc).length x.stage=stageB hosts.length x.stage by rw [List.length_map]] at hst;have hC:=hch.trans hnext;have fin1:∀ b,chain (stepOK hosts.length fin) stepLt none l=(b&&chain (stepOK hosts.length fin) stepLt (prevA l (i+1)) (l.drop (i+1)))→b=false→DV.bool false=DV.bool (decide (l.length≤400)&&chain (stepOK hosts.length fin) stepLt none l):=fun b h1 h2=>by rw [h1,h2]; simp
  rcases Nat.eq_zero_or_pos i with h0 | h0
  ·subst h0;have hC2:chain (stepOK hosts.length fin) stepLt none l=(stepOK hosts.length fin x&&chain (stepOK hosts.length fin) stepLt (prevA l (0+1)) (l.drop (0+1))):=by rw [hC]; simp [prevA]
   refine gO Tryz.func50 ?_;refine AWL.draw E_ok E_mixed 46 2000 (by kernel_rfl) ?_;(conv=>whnf);repeat' (first | with_reducible refine elemP_at (at_map hx) rfl ?_ | with_reducible refine callP_eq (hst) ?_ | with_reducible refine callP1_eq (hst) ?_ | with_reducible refine cY ?_ | with_reducible refine cN ?_ | with_reducible refine caseB_split (fun _=>?_) (fun _=>?_) | refine gA Tryz.func50 ?_ | refine gB ?_ | refine gC ?_ | with_reducible rfl)
   all_goals try (exact fin1 _ hC2 (by (simp_all [stepOK] <;> omega)))
   have hok:stepOK hosts.length fin x=true:=by (simp_all [stepOK] <;> omega)
   refine gO Tryz.func50 ?_;refine AWL.back (IH (0+1) ⟨by omega,by rw [hC2,hok]; rfl⟩ (by omega)) ?_;(conv=>whnf);repeat (first | exact trivial | (refine sI ?_; conv=>whnf))
  ·obtain ⟨q,hq,hpq⟩:=prevA_some h0 hi;have hC2:chain (stepOK hosts.length fin) stepLt none l=((stepOK hosts.length fin x&&stepLt q x)&&chain (stepOK hosts.length fin) stepLt (prevA l (i+1)) (l.drop (i+1))):=by rw [hC,hpq]
   have hg:decide ((i:Int)>0)=true:=by simp; omega
   refine gO Tryz.func50 ?_;refine AWL.draw E_ok E_mixed 46 2000 (by kernel_rfl) ?_;(conv=>whnf);repeat' (first | with_reducible refine elemP_at (at_map hx) rfl ?_ | with_reducible refine elemP_at (at_prev hq (by omega) (by omega)) rfl ?_ | with_reducible refine callP_eq (hst) ?_ | with_reducible refine callP1_eq (hst) ?_ | with_reducible refine cY ?_ | with_reducible refine cN ?_ | with_reducible refine caseB_split (fun _=>?_) (fun _=>?_) | refine gA Tryz.func50 ?_ | refine gB ?_ | refine gC ?_ | with_reducible rfl)
   all_goals try (exact fin1 _ hC2 (by (simp_all [stepOK,stepLt] <;> omega)))
   have hok:(stepOK hosts.length fin x&&stepLt q x)=true:=by (simp_all [stepOK,stepLt] <;> omega)
   refine gO Tryz.func50 ?_;refine AWL.back (IH (i+1) ⟨by omega,by rw [hC2,hok]; rfl⟩ (by omega)) ?_;(conv=>whnf);repeat (first | exact trivial | (refine sI ?_; conv=>whnf))
 ·have hge:l.length≤i:=by simpa using h5
  rw [List.drop_eq_nil_of_le hge] at hch;refine gO Tryz.func50 ?_;rw [hch];simp [chain];try omega
theorem rvalidS_p (h:History) (l:List Step) (hf:h.Fits) (hk1:h.copies.length≤1000000) (hk2:h.hints.length≤1000000) (hg:Steps.Fits l):PCalls E 17 [h.enc,.sl (l.map Step.enc)] (· = .bool (validS h l)):=by
 have h1:=rhvalid_p h hf hk1 hk2;have h2:=rsteps_p h l hg;refine eP Tryz.func17 ?_;repeat' (first | with_reducible refine callP_eq (h1) ?_ | with_reducible refine callP1_eq (h1) ?_ | with_reducible refine callP_eq (h2) ?_ | with_reducible refine callP1_eq (h2) ?_ | with_reducible refine cY ?_ | with_reducible refine cN ?_ | with_reducible refine caseB_split (fun _=>?_) (fun _=>?_) | refine gA Tryz.func17 ?_ | refine gB ?_ | refine gC ?_ | with_reducible rfl)
 all_goals simp_all [validS]
end Go.Proofs.YtajnanldmhpeaaaGreatDoor.P
end
section
namespace Go.Proofs.YtajnanldmhpeaaaGreatDoor.P
open Go Go.Eng
set_option maxRecDepth 100000
set_option maxHeartbeats 4000000
def stay1 (ended:List Spot) (at_:Int) (c:Copy):List Copy:=if c.spot∈ended then (if c.frm≥at_ then [] else [{ c with upto:=min c.upto at_ }]) else [c]
def stayL (ended:List Spot) (at_:Int) (l:List Copy):List Copy:=l.flatMap (stay1 ended at_)
theorem stay_next {ended:List Spot} {at_:Int} {l:List Copy} {k:Nat} {c:Copy} (h:l[k]? = some c):stayL ended at_ (l.take (k+1))=stayL ended at_ (l.take k)++stay1 ended at_ c:=by
 rw [take_next h,stayL,List.flatMap_append];simp [stayL]
theorem stay_len {ended:List Spot} {at_:Int}:∀ (l:List Copy),(stayL ended at_ l).length≤l.length
 | []=>by simp [stayL]
 |c::l=>by
  have:=stay_len (ended:=ended) (at_:=at_) l;unfold stayL at this ⊢;rw [List.flatMap_cons,List.length_append,List.length_cons];have h1:(stay1 ended at_ c).length≤1:=by unfold stay1; split <;> (try split) <;> simp
  omega
theorem evs_one {G:List (Nat × DV)} {s:List AV} {x:Operand} {v:AV} (h:EvOK G s x v):EvsOK G s [x] [v]:=fun c a h3 h4=>VL.cons (h c a h3 h4) .nil
theorem mentioned_a (s:Stage) (hf:s.Fits):ACalls E 62 [] [.d s.enc] (fun a b=>a = .map 1∧b=[.cells [.d (.sl (s.puts.map Placed.enc))],.map (setM Spot.en (s.puts.map Placed.spot))]):=by
 obtain ⟨l⟩:=s;obtain ⟨hz,hl⟩:=hf;simp only at hz hl;show ACalls E _ [] [.d (DV.agg [.sl (l.map Placed.enc)])] _;refine ACalls.run E_ok (fn:=Tryz.f62) Tryz.func62 (body:=Tryz.f62.body.getD .skip) rfl (by decide) 2000 rfl ?_;(conv=>whnf);refine gO Tryz.func62 ?_;refine gO Tryz.func62 ?_;refine AWL.loop (κ:=Nat) ([5]++rg 10 12) (fun k=>[(10,.d (.int .i64 k)),(3,.map 1)]) (fun k=>[(1,.map (setM Spot.en ((l.take k).map Placed.spot)))]) (fun k=>k≤l.length) (fun k=>l.length - k) 0 (Nat.zero_le _) ?_ ?_
 ·(conv=>whnf);repeat (first | exact trivial | (refine sI ?_; conv=>whnf))
  refine And.intro rfl ?_;(conv=>whnf);repeat (first | exact trivial | (refine sI ?_; conv=>whnf))
 rintro i hi IH;refine AWL.head E_ok Tryz.func62 2000 ?_;(conv=>whnf);refine caseB_split (fun h5=>?_) (fun h5=>?_)
 ·have hlt:i<l.length:=by simpa using h5
  obtain ⟨x,hx⟩:=some_of_lt hlt;have hkeys:=(setM_ok keyEq_spot ((l.take i).map Placed.spot)).1;refine gO Tryz.func62 ?_;refine elemP_at (e:=x.enc) (at_map hx) rfl ?_;refine gO Tryz.func62 ?_;refine need_intro ⟨⟨_,rfl,rfl,⟨_,rfl,_,rfl⟩,rfl,⟨_,rfl,_,rfl⟩,trivial⟩,fit_pairs hkeys⟩ ?_;refine gO Tryz.func62 ?_;refine AWL.back (IH (i+1) (by omega) (by omega)) ?_;rw [spots_next hx,setM_snoc];(conv=>whnf);repeat (first | exact trivial | (refine sI ?_; conv=>whnf))
  refine And.intro rfl ?_;(conv=>whnf);repeat (first | exact trivial | (refine sI ?_; conv=>whnf))
 ·have hge:l.length≤i:=by simpa using h5
  rw [List.take_of_length_le hge];refine gO Tryz.func62 ?_;exact ⟨rfl,rfl⟩
theorem staying_a (l:List DV) (es:List (DV × DV)) (at_:Int):ACalls E 61 [.map es] [.d (.sl l),.map 0,.d (.int .i64 at_)] (fun a b=>a = .fn (.func 108) [] [.ptr 1 0,.ptr 2 0,.ptr 3 0]∧b=[.map es,.cells [.d (.sl l)],.cells [.map 0],.cells [.d (.int .i64 at_)]]):=by
 refine ACalls.run E_ok (fn:=Tryz.f61) Tryz.func61 (body:=Tryz.f61.body.getD .skip) rfl (by decide) 2000 rfl ?_;(conv=>whnf);exact ⟨rfl,rfl⟩
theorem appendSeq_a (l:List Copy) (ended:List Spot) (at_:Int) (hl:l.length≤1000000) :
  ACalls E 107 [.cells [.d (.sl (l.map Copy.enc))],.cells [.map 3],.cells [.d (.int .i64 at_)],.map (setM Spot.en ended)] [.d .nilsl,.fn (.func 108) [] [.ptr 0 0,.ptr 1 0,.ptr 2 0]]
   (fun a b=>a = .own 5 1∧b=[.cells [.d (.sl (l.map Copy.enc))],.cells [.map 3],.cells [.d (.int .i64 at_)],.map (setM Spot.en ended),.cells [.own 5 1],.arr 1 (83,5) ((stayL ended at_ l).map Copy.enc)]):=by
 refine ACalls.run E_ok (fn:=Tryz.f107) Tryz.func107 (body:=Tryz.f107.body.getD .skip) rfl (by decide) 2000 rfl ?_;(conv=>whnf);refine AWL.adoptCell 4 0 (83,5) (by decide) rfl rfl ?_;(conv=>whnf);refine AWL.rangeFunc (ev_at rfl) Tryz.func108 rfl (by decide) rfl (fun ll d t=>?_);refine gO Tryz.func108 ?_;refine AWL.loop (κ:=Nat) ([6]++rg 9 26) (fun k=>[(9,.d (.int .i64 k))]) (fun k=>[(4,.cells [.own 5 1]),(5,.arr 1 (83,5) ((stayL ended at_ (l.take k)).map Copy.enc))]) (fun k=>k≤l.length) (fun k=>l.length - k) 0 (Nat.zero_le _) ?_ ?_
 ·(conv=>whnf);repeat (first | exact trivial | (refine sI ?_; conv=>whnf))
  refine And.intro rfl ?_;(conv=>whnf);repeat (first | exact trivial | (refine sI ?_; conv=>whnf))
 intro k hk IH;refine AWL.head E_ok Tryz.func108 2000 ?_;(conv=>whnf);refine caseB_split (fun h5=>?_) (fun h5=>?_)
 ·have hlt:k<l.length:=by simpa using h5
  obtain ⟨c,hc⟩:=some_of_lt hlt;have hnext:=stay_next (ended:=ended) (at_:=at_) hc;have hlen:=stay_len (ended:=ended) (at_:=at_) (l.take k);have hlen2:(l.take k).length≤l.length:=by simp; omega
  obtain ⟨hf1,hf2⟩:=setM_has keyEq_spot ended c.spot;have hkeys:=(setM_ok keyEq_spot ended).1;refine gO Tryz.func108 ?_;refine elemP_at (e:=c.enc) (at_map hc) rfl ?_;refine gO Tryz.func108 ?_;refine lookP_intro (.bool false) (.bool false) ⟨_,rfl,rfl,⟨_,rfl,_,rfl⟩,rfl,⟨_,rfl,_,rfl⟩,trivial⟩ (fit_pairs hkeys) (fun w=>by kernel_rfl) (fun _ _ => .bool _) hf1 hf2 ?_;refine gO Tryz.func108 ?_;by_cases hm:c.spot∈ended
  ·refine caseB_yes (by simp [hm]) ?_;refine gO Tryz.func108 ?_;refine caseB_split (fun h6=>?_) (fun h6=>?_)
   ·have e1:stay1 ended at_ c=[]:=by simp [stay1,hm,of_decide_eq_true h6]
    refine gO Tryz.func108 ?_;refine AWL.back (IH (k+1) (by omega) (by omega)) ?_;rw [hnext,e1,List.append_nil];(conv=>whnf);repeat (first | exact trivial | (refine sI ?_; conv=>whnf))
   ·have e1:stay1 ended at_ c=[{ c with upto:=min c.upto at_ }]:=by simp [stay1,hm,of_decide_eq_false h6]
    refine gO Tryz.func108 ?_;refine AWL.minK rfl rfl (ev_at rfl) (ev_at rfl) ?_;(conv=>whnf);refine gO Tryz.func108 ?_;refine AWL.yield 0 rfl rfl rfl (ev_at rfl) (evs_one (ev_at rfl)) rfl ?_;(conv=>whnf);refine gO Tryz.func107 ?_;refine AWL.begin 0 rfl rfl rfl ?_;(conv=>whnf);refine gO Tryz.func107 ?_;refine need_intro ⟨by simp; omega,by simp [DV.cells]⟩ ?_;refine gO Tryz.func107 ?_;refine AWL.roundEnd 0 rfl rfl rfl ?_;(conv=>whnf);refine gO Tryz.func108 ?_;refine caseB_no (by decide) ?_;refine gO Tryz.func108 ?_;refine AWL.back (IH (k+1) (by omega) (by omega)) ?_;rw [hnext,e1];(conv=>whnf);repeat (first | exact trivial | (refine sI ?_; conv=>whnf))
    refine And.intro (by simp) ?_;(conv=>whnf);repeat (first | exact trivial | (refine sI ?_; conv=>whnf))
  ·refine caseB_no (by simp [hm]) ?_;have e1:stay1 ended at_ c=[c]:=by simp [stay1,hm]
   refine gO Tryz.func108 ?_;refine AWL.yield 0 rfl rfl rfl (ev_at rfl) (evs_one (ev_at rfl)) rfl ?_;(conv=>whnf);refine gO Tryz.func107 ?_;refine AWL.begin 0 rfl rfl rfl ?_;(conv=>whnf);refine gO Tryz.func107 ?_;refine need_intro ⟨by simp; omega,by simp [DV.cells]⟩ ?_;refine gO Tryz.func107 ?_;refine AWL.roundEnd 0 rfl rfl rfl ?_;(conv=>whnf);refine gO Tryz.func108 ?_;refine caseB_no (by decide) ?_;refine gO Tryz.func108 ?_;refine AWL.back (IH (k+1) (by omega) (by omega)) ?_;rw [hnext,e1];(conv=>whnf);repeat (first | exact trivial | (refine sI ?_; conv=>whnf))
   refine And.intro (by simp) ?_;(conv=>whnf);repeat (first | exact trivial | (refine sI ?_; conv=>whnf))
 ·have hge:l.length≤k:=by simpa using h5
  rw [List.take_of_length_le hge];refine gO Tryz.func108 ?_;refine AWL.rangeEnd E_ok Tryz.func108 rfl rfl rfl rfl (fun e=>nomatch e) ?_;(conv=>whnf);refine gO Tryz.func107 ?_;refine AWL.retTop E_ok Tryz.func107 rfl rfl rfl rfl rfl ?_;(conv=>whnf);exact ⟨rfl,rfl⟩
theorem collect_a (l:List Copy) (ended:List Spot) (at_:Int) (hl:l.length≤1000000) :
  ACalls E 60 [.cells [.d (.sl (l.map Copy.enc))],.cells [.map 3],.cells [.d (.int .i64 at_)],.map (setM Spot.en ended)] [.fn (.func 108) [] [.ptr 0 0,.ptr 1 0,.ptr 2 0]]
   (fun a b=>a = .own 5 1∧b=[.cells [.d (.sl (l.map Copy.enc))],.cells [.map 3],.cells [.d (.int .i64 at_)],.map (setM Spot.en ended),.cells [.own 5 1],.arr 1 (83,5) ((stayL ended at_ l).map Copy.enc)]):=by
 refine ACalls.run E_ok (fn:=Tryz.f60) Tryz.func60 (body:=Tryz.f60.body.getD .skip) rfl (by decide) 2000 rfl ?_;conv=>whnf
 with_reducible refine callS_eq (appendSeq_a l ended at_ hl) ?_
 refine gO Tryz.func60 ?_;exact ⟨rfl,rfl⟩
end Go.Proofs.YtajnanldmhpeaaaGreatDoor.P
end
section
namespace Go.Proofs.YtajnanldmhpeaaaGreatDoor.P
open Go Go.Eng
set_option maxRecDepth 100000
set_option maxHeartbeats 4000000
theorem cloneCopy_p (l:List DV) (hl:l.length≤2147483648) (hc:∀ e∈l,e.cells.length=5):PCalls E 66 [.sl l] (· = .sl l):=by
 by_cases h:l=[]
 ·subst h;refine PCalls.norm ?_;refine eP Tryz.func66 ?_;refine AWL.nilTest E_ok rfl rfl rfl rfl (ev_at rfl) (fun b hb=>?_);cases b
  ·refine gO Tryz.func66 ?_;refine caseB_false ?_;refine gO Tryz.func66 ?_;refine need_intro ⟨by decide,fun e he=>by cases he⟩ ?_;refine gO Tryz.func66 ?_;rfl
  ·refine gO Tryz.func66 ?_;refine caseB_true ?_;refine gO Tryz.func66 ?_;rfl
 ·refine eP Tryz.func66 ?_;refine AWL.nilTest E_ok rfl rfl rfl rfl (ev_at rfl) (fun b hb=>?_);obtain rfl:b=false:=by
   cases b
   ·rfl
   ·exact absurd (hb rfl) h
  refine gO Tryz.func66 ?_;refine caseB_false ?_;refine gO Tryz.func66 ?_;refine need_intro ⟨by simp; omega,hc⟩ ?_;refine gO Tryz.func66 ?_;rfl
theorem cloneCopy_a (l:List DV) (h:l≠[]) (hl:l.length≤2147483648) (hc:∀ e∈l,e.cells.length=5):ACalls E 66 [] [.d (.sl l)] (fun a b=>a = .own 0 1∧b=[.arr 1 (83,5) l]):=by
 refine ACalls.run E_ok (fn:=Tryz.f66) Tryz.func66 (body:=Tryz.f66.body.getD .skip) rfl (by decide) 2000 rfl ?_;(conv=>whnf);refine AWL.nilTest E_ok rfl rfl rfl rfl (ev_at rfl) (fun b hb=>?_);obtain rfl:b=false:=by
  cases b
  ·rfl
  ·exact absurd (hb rfl) h
 refine gO Tryz.func66 ?_;refine caseB_false ?_;refine gO Tryz.func66 ?_;refine need_intro ⟨by simp; omega,hc⟩ ?_;refine gO Tryz.func66 ?_;exact ⟨rfl,rfl⟩
theorem cloneHost_p (l:List DV) (hl:l.length≤2147483648) (hc:∀ e∈l,e.cells.length=3):PCalls E 68 [.sl l] (· = .sl l):=by
 by_cases h:l=[]
 ·subst h;refine PCalls.norm ?_;refine eP Tryz.func68 ?_;refine AWL.nilTest E_ok rfl rfl rfl rfl (ev_at rfl) (fun b hb=>?_);cases b
  ·refine gO Tryz.func68 ?_;refine caseB_false ?_;refine gO Tryz.func68 ?_;refine need_intro ⟨by decide,fun e he=>by cases he⟩ ?_;refine gO Tryz.func68 ?_;rfl
  ·refine gO Tryz.func68 ?_;refine caseB_true ?_;refine gO Tryz.func68 ?_;rfl
 ·refine eP Tryz.func68 ?_;refine AWL.nilTest E_ok rfl rfl rfl rfl (ev_at rfl) (fun b hb=>?_);obtain rfl:b=false:=by
   cases b
   ·rfl
   ·exact absurd (hb rfl) h
  refine gO Tryz.func68 ?_;refine caseB_false ?_;refine gO Tryz.func68 ?_;refine need_intro ⟨by simp; omega,hc⟩ ?_;refine gO Tryz.func68 ?_;rfl
theorem cloneDatum_p (l:List DV) (hl:l.length≤2147483648) (hc:∀ e∈l,e.cells.length=3):PCalls E 69 [.sl l] (· = .sl l):=by
 by_cases h:l=[]
 ·subst h;refine PCalls.norm ?_;refine eP Tryz.func69 ?_;refine AWL.nilTest E_ok rfl rfl rfl rfl (ev_at rfl) (fun b hb=>?_);cases b
  ·refine gO Tryz.func69 ?_;refine caseB_false ?_;refine gO Tryz.func69 ?_;refine need_intro ⟨by decide,fun e he=>by cases he⟩ ?_;refine gO Tryz.func69 ?_;rfl
  ·refine gO Tryz.func69 ?_;refine caseB_true ?_;refine gO Tryz.func69 ?_;rfl
 ·refine eP Tryz.func69 ?_;refine AWL.nilTest E_ok rfl rfl rfl rfl (ev_at rfl) (fun b hb=>?_);obtain rfl:b=false:=by
   cases b
   ·rfl
   ·exact absurd (hb rfl) h
  refine gO Tryz.func69 ?_;refine caseB_false ?_;refine gO Tryz.func69 ?_;refine need_intro ⟨by simp; omega,hc⟩ ?_;refine gO Tryz.func69 ?_;rfl
theorem cloneInt_p (l:List DV) (hl:l.length≤2147483648) (hc:∀ e∈l,e.cells.length=1):PCalls E 70 [.sl l] (· = .sl l):=by
 by_cases h:l=[]
 ·subst h;refine PCalls.norm ?_;refine eP Tryz.func70 ?_;refine AWL.nilTest E_ok rfl rfl rfl rfl (ev_at rfl) (fun b hb=>?_);cases b
  ·refine gO Tryz.func70 ?_;refine caseB_false ?_;refine gO Tryz.func70 ?_;refine need_intro ⟨by decide,fun e he=>by cases he⟩ ?_;refine gO Tryz.func70 ?_;rfl
  ·refine gO Tryz.func70 ?_;refine caseB_true ?_;refine gO Tryz.func70 ?_;rfl
 ·refine eP Tryz.func70 ?_;refine AWL.nilTest E_ok rfl rfl rfl rfl (ev_at rfl) (fun b hb=>?_);obtain rfl:b=false:=by
   cases b
   ·rfl
   ·exact absurd (hb rfl) h
  refine gO Tryz.func70 ?_;refine caseB_false ?_;refine gO Tryz.func70 ?_;refine need_intro ⟨by simp; omega,hc⟩ ?_;refine gO Tryz.func70 ?_;rfl
theorem cloneSigned_p (l:List DV) (hl:l.length≤2147483648) (hc:∀ e∈l,e.cells.length=5):PCalls E 111 [.sl l] (· = .sl l):=by
 by_cases h:l=[]
 ·subst h;refine PCalls.norm ?_;refine eP Tryz.func111 ?_;refine AWL.nilTest E_ok rfl rfl rfl rfl (ev_at rfl) (fun b hb=>?_);cases b
  ·refine gO Tryz.func111 ?_;refine caseB_false ?_;refine gO Tryz.func111 ?_;refine need_intro ⟨by decide,fun e he=>by cases he⟩ ?_;refine gO Tryz.func111 ?_;rfl
  ·refine gO Tryz.func111 ?_;refine caseB_true ?_;refine gO Tryz.func111 ?_;rfl
 ·refine eP Tryz.func111 ?_;refine AWL.nilTest E_ok rfl rfl rfl rfl (ev_at rfl) (fun b hb=>?_);obtain rfl:b=false:=by
   cases b
   ·rfl
   ·exact absurd (hb rfl) h
  refine gO Tryz.func111 ?_;refine caseB_false ?_;refine gO Tryz.func111 ?_;refine need_intro ⟨by simp; omega,hc⟩ ?_;refine gO Tryz.func111 ?_;rfl
theorem cloneSigned_a (l:List DV) (h:l≠[]) (hl:l.length≤2147483648) (hc:∀ e∈l,e.cells.length=5):ACalls E 111 [] [.d (.sl l)] (fun a b=>a = .own 0 1∧b=[.arr 1 (129,5) l]):=by
 refine ACalls.run E_ok (fn:=Tryz.f111) Tryz.func111 (body:=Tryz.f111.body.getD .skip) rfl (by decide) 2000 rfl ?_;(conv=>whnf);refine AWL.nilTest E_ok rfl rfl rfl rfl (ev_at rfl) (fun b hb=>?_);obtain rfl:b=false:=by
  cases b
  ·rfl
  ·exact absurd (hb rfl) h
 refine gO Tryz.func111 ?_;refine caseB_false ?_;refine gO Tryz.func111 ?_;refine need_intro ⟨by simp; omega,hc⟩ ?_;refine gO Tryz.func111 ?_;exact ⟨rfl,rfl⟩
theorem cloneSig_p (l:List DV) (hl:l.length≤2147483648) (hc:∀ e∈l,e.cells.length=6):PCalls E 112 [.sl l] (· = .sl l):=by
 by_cases h:l=[]
 ·subst h;refine PCalls.norm ?_;refine eP Tryz.func112 ?_;refine AWL.nilTest E_ok rfl rfl rfl rfl (ev_at rfl) (fun b hb=>?_);cases b
  ·refine gO Tryz.func112 ?_;refine caseB_false ?_;refine gO Tryz.func112 ?_;refine need_intro ⟨by decide,fun e he=>by cases he⟩ ?_;refine gO Tryz.func112 ?_;rfl
  ·refine gO Tryz.func112 ?_;refine caseB_true ?_;refine gO Tryz.func112 ?_;rfl
 ·refine eP Tryz.func112 ?_;refine AWL.nilTest E_ok rfl rfl rfl rfl (ev_at rfl) (fun b hb=>?_);obtain rfl:b=false:=by
   cases b
   ·rfl
   ·exact absurd (hb rfl) h
  refine gO Tryz.func112 ?_;refine caseB_false ?_;refine gO Tryz.func112 ?_;refine need_intro ⟨by simp; omega,hc⟩ ?_;refine gO Tryz.func112 ?_;rfl
end Go.Proofs.YtajnanldmhpeaaaGreatDoor.P
end
section
namespace Go.Proofs.YtajnanldmhpeaaaGreatDoor.P
open Go Go.Eng
set_option maxRecDepth 100000
set_option maxHeartbeats 4000000
structure Zone.Short (z:Zone):Prop where
 sets:z.sets.length≤2147483648
 each:∀ s∈z.sets,s.set.data.length≤2147483648∧s.sigs.length≤2147483648
theorem zoneR_short {z:Zone} (h:zoneR z=true):z.Short:=by
 simp only [zoneR,Bool.and_eq_true] at h;obtain ⟨h1,h2,h3,h4,h5⟩:=h;obtain ⟨q1,q2,q3⟩:=oneB_sets h1;refine ⟨by omega,fun s hs=>⟨?_,?_⟩⟩
 ·have:=q2 s hs;simp only [ok1,Bool.and_eq_true] at this;have:=setOK_lens this.1;omega
 ·obtain ⟨i,hi⟩:=List.getElem?_of_mem hs;have hlt:=lt_of_getElem? hi;obtain ⟨o,ho⟩:=some_of_lt (l:=ownZ z) (k:=i) (by rw [ownZ_len]; exact hlt);have hm:(s,o)∈z.sets.zip (ownZ z):=List.mem_of_getElem? (i:=i) (by rw [List.getElem?_zip_eq_some]; exact ⟨hi,ho⟩);have h6:=List.all_eq_true.1 h5 _ hm;simp only [five1,sigsB,Bool.and_eq_true,decide_eq_true_eq] at h6;omega
theorem sets_next {l:List Signed} {i:Nat} {x:Signed} (h:l[i]? = some x):(l.map Signed.enc).set i x.enc=l.map Signed.enc:=by
 apply List.ext_getElem?;intro j;rw [List.getElem?_set];split
 ·rename_i e;subst e;have hlt:=lt_of_getElem? h;rw [if_pos (by simpa using hlt),List.getElem?_map,h];rfl
 ·rfl
theorem cloned_p (z:Zone) (hf:z.Short):PCalls E 67 [z.enc] (· = z.enc):=by
 obtain ⟨apex,l⟩:=z;obtain ⟨hl,he⟩:=hf;simp only at hl he;have hcl:∀ e∈l.map Signed.enc,e.cells.length=5:=fun e h=>by
  obtain ⟨x,_,rfl⟩:=List.mem_map.1 h;rfl
 show PCalls E _ [DV.agg [.str apex,.sl (l.map Signed.enc)]] _;by_cases h:l=[]
 ·subst h;show PCalls E _ [DV.agg [.str apex,.sl []]] _;refine eP Tryz.func67 ?_
  with_reducible refine callP_eq (cloneSigned_p [] (by simp) (by simp)) ?_
  refine gO Tryz.func67 ?_;refine AWL.unroll ?_;refine AWL.run E_ok Tryz.func67 2000 ?_;(conv=>whnf);refine caseB_no (by simp) ?_;refine gO Tryz.func67 ?_;rfl
 ·refine eP Tryz.func67 ?_;refine callP_own (cloneSigned_a (l.map Signed.enc) (by simpa using h) (by simpa using hl) hcl) rfl ?_;refine gO Tryz.func67 ?_;refine AWL.loop (κ:=Nat) ([3]++rg 11 30) (fun k=>[(11,.d (.int .i64 k))]) (fun k=>[(2,.arr 1 (129,5) (l.map Signed.enc))]) (fun k=>k≤l.length) (fun k=>l.length - k) 0 (Nat.zero_le _) ?_ ?_
  ·(conv=>whnf);repeat (first | exact trivial | (refine sI ?_; conv=>whnf))
  intro k hk IH;refine AWL.head E_ok Tryz.func67 2000 ?_;(conv=>whnf);refine caseB_split (fun h5=>?_) (fun h5=>?_)
  ·have hlt:k<l.length:=by simpa using h5
   obtain ⟨x,hx⟩:=some_of_lt hlt;obtain ⟨q1,q2⟩:=he x (List.mem_of_getElem? hx);have hset1:(l.map Signed.enc).set (k:Int).toNat (DV.agg [.str x.set.name,.int .i64 x.set.type,.int .i64 x.set.life,.sl (x.set.data.map Datum.enc),encSigs x.sigs])=l.map Signed.enc:=sets_next hx;have hset2:(l.map Signed.enc).set (k:Int).toNat (DV.agg [.str x.set.name,.int .i64 x.set.type,.int .i64 x.set.life,encData x.set.data,.sl (x.sigs.map Sig.enc)])=l.map Signed.enc:=sets_next hx;refine gO Tryz.func67 ?_;refine AWL.draw E_ok E_mixed 14 2000 (by kernel_rfl) ?_;(conv=>whnf);have hb:0≤(k:Int)∧(k:Int)<((l.map Signed.enc).length:Int):=⟨by omega,by simp; omega⟩;refine need_intro hb ?_;refine gD ?_;refine elemP_at (e:=x.enc) (at_map hx) rfl ?_;refine gD ?_
   with_reducible refine callP1_eq (cloneDatum_p (x.set.data.map Datum.enc) (by simpa using q1) (fun e h=>by obtain ⟨d,_,rfl⟩:=List.mem_map.1 h; simp [DV.cells])) ?_
   refine gD ?_;refine need_intro hb ?_;refine gD ?_;refine gS ?_;refine elemP_at (e:=x.enc) (at_map hx) rfl ?_;refine gS ?_;rw [hset1];refine gO Tryz.func67 ?_;refine AWL.draw E_ok E_mixed 12 2000 (by kernel_rfl) ?_;(conv=>whnf);refine need_intro hb ?_;refine gD ?_;refine elemP_at (e:=x.enc) (at_map hx) rfl ?_;refine gD ?_
   with_reducible refine callP1_eq (cloneSig_p (x.sigs.map Sig.enc) (by simpa using q2) (fun e h=>by obtain ⟨d,_,rfl⟩:=List.mem_map.1 h; simp [DV.cells])) ?_
   refine gD ?_;refine need_intro hb ?_;refine gD ?_;refine gS ?_;refine elemP_at (e:=x.enc) (at_map hx) rfl ?_;refine gS ?_;rw [hset2];refine gO Tryz.func67 ?_;refine AWL.back (IH (k+1) (by omega) (by omega)) ?_;(conv=>whnf);repeat (first | exact trivial | (refine sI ?_; conv=>whnf))
  ·refine gO Tryz.func67 ?_
   with_reducible rfl
end Go.Proofs.YtajnanldmhpeaaaGreatDoor.P
end
section
namespace Go.Proofs.YtajnanldmhpeaaaGreatDoor.P
open Go Go.Eng
set_option maxRecDepth 100000
set_option maxHeartbeats 4000000
theorem apex1_p (c:Copy):PCalls E 64 [c.enc] (· = .str c.zone.apex):=by
 refine eP Tryz.func64 ?_
 with_reducible rfl
theorem putD_len {α:Type} [DecidableEq α] {en:α→DV} (hk:∀ a b,keyEq (en a) (en b)=decide (a=b)) {b:α} {v:DV}:∀ {es:List (DV × DV)},KeysIn en es→(putD (en b) v es).length=es.length+(if (findD (en b) es).isSome then 0 else 1)
 | [],_=>by simp [putD,findD]
 |q::es,h=>by
  obtain ⟨s,hs⟩:=h q (List.mem_cons_self ..);obtain ⟨q1,q2⟩:=q;simp only at hs;subst hs;unfold putD;simp only [hk];by_cases e:b=s
  ·subst e;simp [findD,hk]
  ·have ih:=putD_len hk (b:=b) (v:=v) (es:=es) (fun r hr=>h r (List.mem_cons_of_mem _ hr));simp only [e,decide_false,Bool.false_eq_true,if_false,findD,hk,List.length_cons,ih];omega
theorem setM_len {α:Type} [DecidableEq α] {en:α→DV} (hk:∀ a b,keyEq (en a) (en b)=decide (a=b)) (l:List α):∀ k,k≤l.length→(setM en (l.take k)).length=(nub [] (l.take k)).length
 | 0,_=>rfl
 |k+1,h=>by
  obtain ⟨x,hx⟩:=some_of_lt (l:=l) (k:=k) (by omega);have ih:=setM_len hk l k (by omega);rw [setM_next hx,nub_next hx,putD_len hk (setM_ok hk _).1,(setM_has hk _ x).2,ih];by_cases hm:x∈l.take k
  ·simp [hm]
  ·simp [hm]
def manyB (l:List Copy):Bool:=decide (4000<l.length)||decide (500<apexN l)
theorem tooMany_p (l:List Copy) (hl:l.length≤1000000):ACalls E 65 [] [.d (.sl (l.map Copy.enc)),.d (.int .i64 4000),.d (.int .i64 500),.fn (.func 64) [] []] (fun a b=>∃ es,a = .d (.bool (manyB l))∧b=[.map es]):=by
 generalize hT:l.map (·.zone.apex)=T;have hTl:T.length=l.length:=by rw [← hT]; simp
 have hlen:=setM_len keyEq_text T T.length (Nat.le_refl _);rw [List.take_length] at hlen;have hmany:manyB l=(decide (4000<l.length)||decide (500<(nub [] T).length)):=by rw [manyB,apexN,hT]
 rw [hmany];refine ACalls.run E_ok (fn:=Tryz.f65) Tryz.func65 (body:=Tryz.f65.body.getD .skip) rfl (by decide) 2000 rfl ?_;(conv=>whnf);refine gO Tryz.func65 ?_;refine gO Tryz.func65 ?_;refine AWL.loop (κ:=Nat) ([11]++rg 15 9) (fun k=>[(15,.d (.int .i64 k)),(9,.map 0)]) (fun k=>[(0,.map (setM DV.str (T.take k)))]) (fun k=>k≤l.length) (fun k=>l.length - k) 0 (Nat.zero_le _) ?_ ?_
 ·(conv=>whnf);repeat (first | exact trivial | (refine sI ?_; conv=>whnf))
  refine And.intro rfl ?_;(conv=>whnf);repeat (first | exact trivial | (refine sI ?_; conv=>whnf))
 intro k hk IH;refine AWL.head E_ok Tryz.func65 2000 ?_;(conv=>whnf);refine caseB_split (fun h5=>?_) (fun h5=>?_)
 ·have hlt:k<l.length:=by simpa using h5
  obtain ⟨c,hc⟩:=some_of_lt hlt;have hT1:T[k]? = some c.zone.apex:=by rw [← hT]; simp [hc]
  have hkeys:=(setM_ok keyEq_text (T.take k)).1;refine gO Tryz.func65 ?_;refine elemP_at (e:=c.enc) (at_map hc) rfl ?_;refine gO Tryz.func65 ?_
  with_reducible refine callP_eq (apex1_p c) ?_
  refine gO Tryz.func65 ?_;refine need_intro ⟨⟨_,rfl⟩,hkeys⟩ ?_;refine gO Tryz.func65 ?_;refine AWL.back (IH (k+1) (by omega) (by omega)) ?_;rw [setM_next hT1];(conv=>whnf);repeat (first | exact trivial | (refine sI ?_; conv=>whnf))
 ·have hge:l.length≤k:=by simpa using h5
  rw [List.take_of_length_le (by omega)];refine gO Tryz.func65 ?_;refine caseB_split (fun h6=>?_) (fun h6=>?_)
  ·refine gO Tryz.func65 ?_;refine ⟨_,?_,rfl⟩;have:4000<l.length:=by simp at h6; omega
   simp [this]
  ·refine gO Tryz.func65 ?_;refine gO Tryz.func65 ?_;refine ⟨_,?_,rfl⟩;rw [hlen];have h7:decide (4000<l.length)=false:=by simp at h6 ⊢; omega
   rw [h7,Bool.false_or];refine congrArg (fun b=>AV.d (DV.bool b)) ?_;rw [Bool.eq_iff_iff];simp;try omega
end Go.Proofs.YtajnanldmhpeaaaGreatDoor.P
end
section
namespace Go.Proofs.YtajnanldmhpeaaaGreatDoor.P
open Go Go.Eng
set_option maxRecDepth 100000
set_option maxHeartbeats 4000000
def newC (fin at_:Int) (l:List Placed):List Copy:=(l.filter (fun p => !stopB p.zone)).map (fun p=>⟨p.host,at_,fin,p.zone⟩)
def stepTo (fin:Int) (cs:List Copy) (s:Step):List Copy:=stayL (s.stage.puts.map Placed.spot) s.time cs++newC fin s.time s.stage.puts
def runS (fin:Int) (cs:List Copy) (l:List Step):List Copy:=l.foldl (stepTo fin) cs
theorem runS_next {fin:Int} {cs:List Copy} {l:List Step} {k:Nat} {x:Step} (h:l[k]? = some x):runS fin cs (l.take (k+1))=stepTo fin (runS fin cs (l.take k)) x:=by
 rw [take_next h,runS,List.foldl_append]; rfl
theorem newC_next {fin at_:Int} {l:List Placed} {k:Nat} {x:Placed} (h:l[k]? = some x):newC fin at_ (l.take (k+1))=newC fin at_ (l.take k)++(if stopB x.zone then [] else [⟨x.host,at_,fin,x.zone⟩]):=by
 rw [take_next h,newC,List.filter_append,List.map_append];cases hs:stopB x.zone <;> simp [newC,hs]
theorem newC_len {fin at_:Int} {l:List Placed}:(newC fin at_ l).length≤l.length:=by
 rw [newC,List.length_map]; exact List.length_filter_le ..
theorem runS_len {fin:Int} {cs:List Copy} {l:List Step} (hl:∀ s∈l,s.stage.puts.length≤500):∀ k,k≤l.length→(runS fin cs (l.take k)).length≤cs.length+500*k
 | 0,_=>by simp [runS]
 |k+1,h=>by
  obtain ⟨x,hx⟩:=some_of_lt (l:=l) (k:=k) (by omega);have ih:=runS_len (fin:=fin) (cs:=cs) hl k (by omega);have h1:=hl x (List.mem_of_getElem? hx);rw [runS_next hx,stepTo,List.length_append];have h2:=stay_len (ended:=x.stage.puts.map Placed.spot) (at_:=x.time) (runS fin cs (l.take k));have h3:=newC_len (fin:=fin) (at_:=x.time) (l:=x.stage.puts);omega
theorem stay_zones {P:Zone→Prop} {ended:List Spot} {at_:Int} {cs:List Copy} (h:∀ c∈cs,P c.zone):∀ c∈stayL ended at_ cs,P c.zone:=fun c hc=>by
 obtain ⟨d,hd,e⟩:=List.mem_flatMap.1 hc;unfold stay1 at e;split at e
 ·split at e
  ·simp at e
  ·simp at e;subst e;exact h d hd
 ·simp at e;subst e;exact h c hd
theorem runS_zones {P:Zone→Prop} {fin:Int}:∀ {l:List Step} {cs:List Copy},(∀ c∈cs,P c.zone)→(∀ s∈l,∀ p∈s.stage.puts,stopB p.zone=false→P p.zone)→∀ c∈runS fin cs l,P c.zone
 | [],cs,h,_=>h
 |s::l,cs,h,hp=>by
  show ∀ c∈runS fin (stepTo fin cs s) l,P c.zone;refine runS_zones (fun c hc=>?_) (fun t ht=>hp t (List.mem_cons_of_mem _ ht));rcases List.mem_append.1 hc with hc | hc
  ·exact stay_zones h c hc
  ·obtain ⟨p,hp1,e⟩:=List.mem_map.1 hc;obtain ⟨hp2,hp3⟩:=List.mem_filter.1 hp1;subst e;exact hp s (List.mem_cons_self ..) p hp2 (by simpa using hp3)
theorem validS_zones {h:History} {l:List Step} (hv:validS h l=true):(∀ c∈h.copies,zoneR c.zone=true)∧(∀ s∈l,∀ p∈s.stage.puts,stopB p.zone=false→zoneR p.zone=true):=by
 simp only [validS,histB,stepsB,Bool.and_eq_true,decide_eq_true_eq] at hv;obtain ⟨⟨⟨⟨⟨h1,h2⟩,h3⟩,h4⟩,h5⟩,h6,h7⟩:=hv;refine ⟨fun c hc=>?_,fun s hs p hp hn=>?_⟩
 ·have:=List.all_eq_true.1 h3 c hc;simp only [copyOK,Bool.and_eq_true] at this;exact this.2
 ·have:=chain_mem h7 s hs;simp only [stepOK,stageB,Bool.and_eq_true] at this;have:=List.all_eq_true.1 this.2.1.2 p hp;simp only [putOK,Bool.and_eq_true,Bool.or_eq_true] at this;rcases this.2 with e | e
  ·rw [hn] at e; cases e
  ·exact e
theorem valid_lens {h:History} {l:List Step} (hv:validS h l=true):h.copies.length≤4000∧(∀ s∈l,s.stage.puts.length≤500)∧l.length≤400∧(∀ c∈runS h.fin h.copies l,c.zone.Short)∧h.anchor.data.length≤2147483648∧h.hosts.length≤2147483648∧h.hints.length≤2147483648:=by
 obtain ⟨z1,z2⟩:=validS_zones hv;have hz:=runS_zones (fin:=h.fin) (P:=fun z=>zoneR z=true) z1 z2;simp only [validS,histB,stepsB,hostsB,rootB,Bool.and_eq_true,decide_eq_true_eq] at hv;obtain ⟨⟨⟨⟨⟨⟨⟨⟨⟨q1,q2⟩,q3⟩,q4⟩,q5⟩,⟨⟨q6,q7⟩,q8⟩,⟨⟨⟨⟨q9,q10⟩,q11⟩,q12⟩,q13⟩,q14⟩,h3⟩,h4⟩,h5⟩,h6,h7⟩:=hv;have:=setOK_lens q9;refine ⟨q5,fun s hs=>?_,h6,fun c hc=>zoneR_short (hz c hc),by omega,by omega,by omega⟩;have:=chain_mem h7 s hs;simp only [stepOK,stageB,Bool.and_eq_true,decide_eq_true_eq] at this;exact this.2.1.1
theorem copies_same {l:List Copy} {i:Nat} {x:Copy} (h:l[i]? = some x):(l.map Copy.enc).set i x.enc=l.map Copy.enc:=by
 apply List.ext_getElem?;intro j;rw [List.getElem?_set];split
 ·rename_i e;subst e;have hlt:=lt_of_getElem? h;rw [if_pos (by simpa using hlt),List.getElem?_map,h];rfl
 ·rfl
def zeroH:History:=⟨[],[],⟨[],0,0,[]⟩,[],0,0⟩
def applyN (h:History) (l:List Step):Int:=if validS h l then (if manyB (runS h.fin h.copies l) then 2 else 0) else 1
def applyH (h:History) (l:List Step):History:=if applyN h l=0 then { h with copies:=runS h.fin h.copies l } else zeroH
def applyD (h:History) (l:List Step):DV:=if applyN h l=0 then .tup [(applyH h l).enc,.int .i64 0] else .tup [.agg [.nilsl,.nilsl,.str [],.int .i64 0,.int .i64 0,.nilsl,.nilsl,.int .i64 0,.int .i64 0],.int .i64 (applyN h l)]
theorem apply_raw (h:History) (l:List Step) (hf:h.Fits) (hk1:h.copies.length≤1000000) (hs:Steps.Fits l):PCalls E 22 [h.enc,.sl (l.map Step.enc)] (· = applyD h l):=by
 have hv0:=svalid_p h l hf hk1 hs;cases hv:validS h l
 ·have e1:applyN h l=1:=by simp [applyN,hv]
  have e2:applyD h l = .tup [.agg [.nilsl,.nilsl,.str [],.int .i64 0,.int .i64 0,.nilsl,.nilsl,.int .i64 0,.int .i64 0],.int .i64 1]:=by simp [applyD,e1]
  rw [e2];rw [hv] at hv0;obtain ⟨hosts,copies,anchor,hints,drift,fin⟩:=h;show PCalls E _ [DV.agg [.sl (hosts.map Host.enc),.sl (copies.map Copy.enc),.str anchor.name,.int .i64 anchor.type,.int .i64 anchor.life,.sl (anchor.data.map Datum.enc),.sl (hints.map (.int .i64)),.int .i64 drift,.int .i64 fin],_] _;refine eP Tryz.func22 ?_
  with_reducible refine callP_eq (hv0) ?_
  refine gO Tryz.func22 ?_;refine caseB_true ?_;refine gO Tryz.func22 ?_
  with_reducible rfl
 ·rw [hv] at hv0;obtain ⟨hosts,copies,anchor,hints,drift,fin⟩:=h;show PCalls E _ [DV.agg [.sl (hosts.map Host.enc),.sl (copies.map Copy.enc),.str anchor.name,.int .i64 anchor.type,.int .i64 anchor.life,.sl (anchor.data.map Datum.enc),.sl (hints.map (.int .i64)),.int .i64 drift,.int .i64 fin],_] _;refine eP Tryz.func22 ?_
  with_reducible refine callP_eq (hv0) ?_
  refine gO Tryz.func22 ?_;refine caseB_false ?_;refine gO Tryz.func22 ?_;obtain ⟨hcop,hput,hll,hsh,hdat,hho,hhi⟩:=valid_lens hv;simp only at hcop hput hll hsh hdat hho hhi;have hrl:=runS_len (fin:=fin) (cs:=copies) hput;refine AWL.loop (κ:=Nat) ([6,8,10]++rg 22 38) (fun k=>[(22,.d (.int .i64 k)),(6,.d (.sl ((runS fin copies (l.take k)).map Copy.enc)))]) (fun k=>[]) (fun k=>k≤l.length) (fun k=>l.length - k) 0 (Nat.zero_le _) ?_ ?_
  ·(conv=>whnf);repeat (first | exact trivial | (refine sI ?_; conv=>whnf))
   refine And.intro rfl ?_;(conv=>whnf);repeat (first | exact trivial | (refine sI ?_; conv=>whnf))
  intro k hk IH;refine AWL.head E_ok Tryz.func22 2000 ?_;(conv=>whnf);refine caseB_split (fun h5=>?_) (fun h5=>?_)
  ·have hlt:k<l.length:=by simpa using h5
   obtain ⟨x,hx⟩:=some_of_lt hlt;have hlk:=hrl k hk;have hxf:=hput x (List.mem_of_getElem? hx);have hnext:=runS_next (fin:=fin) (cs:=copies) hx;refine gO Tryz.func22 ?_;refine elemP_at (e:=x.enc) (at_map hx) rfl ?_;refine gO Tryz.func22 ?_;refine AWL.drawG E_ok E_mixed [0,1,2,4,5] [] 2000 (by kernel_rfl) ?_;(conv=>whnf);refine GWL.run E_ok 2000 rfl rfl ?_;(conv=>whnf);refine callP2_own (mentioned_a x.stage (hs.each x (List.mem_of_getElem? hx))) rfl ?_;(conv=>whnf);refine And.intro rfl ?_;(conv=>whnf);refine GWL.run E_ok 2000 rfl rfl ?_;(conv=>whnf);refine callS1_eq (staying_a ((runS fin copies (l.take k)).map Copy.enc) (setM Spot.en (x.stage.puts.map Placed.spot)) x.time) ?_;(conv=>whnf);refine And.intro rfl ?_;(conv=>whnf);refine GWL.run E_ok 2000 rfl rfl ?_;(conv=>whnf);refine callS1_eq (collect_a (runS fin copies (l.take k)) (x.stage.puts.map Placed.spot) x.time (by omega)) ?_;(conv=>whnf);refine And.intro rfl ?_;(conv=>whnf);refine GWL.run E_ok 2000 rfl rfl ?_;(conv=>whnf);refine And.intro rfl ?_;(conv=>whnf);refine GWL.run E_ok 2000 rfl rfl ?_;(conv=>whnf);refine gO Tryz.func22 ?_;refine AWL.loop (κ:=Nat) ([33]++[6,10,38,39,40,41,42,43,44,45,46,47,48,49,50,51,52,53,54,55,56,57,58]) (fun j=>[(38,.d (.int .i64 j)),(6,.own 9 1)]) (fun j=>[(8,.gone),(9,.arr 1 (83,5) ((stayL (x.stage.puts.map Placed.spot) x.time (runS fin copies (l.take k))++newC fin x.time (x.stage.puts.take j)).map Copy.enc))]) (fun j=>j≤x.stage.puts.length) (fun j=>x.stage.puts.length - j) 0 (Nat.zero_le _) ?_ ?_
   ·(conv=>whnf);repeat (first | exact trivial | (refine sI ?_; conv=>whnf))
    refine And.intro (by simp [newC]) ?_;(conv=>whnf);repeat (first | exact trivial | (refine sI ?_; conv=>whnf))
   intro j hj JH;refine AWL.head E_ok Tryz.func22 2000 ?_;(conv=>whnf);refine caseB_split (fun h6=>?_) (fun h6=>?_)
   ·have hjlt:j<x.stage.puts.length:=by simpa using h6
    obtain ⟨p,hp⟩:=some_of_lt hjlt;have hpz:=(hs.each x (List.mem_of_getElem? hx)).zones p (List.mem_of_getElem? hp);have hnew:=newC_next (fin:=fin) (at_:=x.time) hp;refine gO Tryz.func22 ?_;refine elemP_at (e:=p.enc) (at_map hp) rfl ?_;refine gO Tryz.func22 ?_
    with_reducible refine callP_eq (isStop_p p.zone hpz) ?_
    refine gO Tryz.func22 ?_;cases hstop:stopB p.zone
    ·have hnew2:newC fin x.time (x.stage.puts.take (j+1))=newC fin x.time (x.stage.puts.take j)++[⟨p.host,x.time,fin,p.zone⟩]:=by rw [hnew,hstop]; rfl
     have hl1:=stay_len (ended:=x.stage.puts.map Placed.spot) (at_:=x.time) (runS fin copies (l.take k));have hl2:=newC_len (fin:=fin) (at_:=x.time) (l:=x.stage.puts.take j);have hl3:(x.stage.puts.take j).length≤x.stage.puts.length:=by simp; omega
     refine caseB_yes rfl ?_;refine gO Tryz.func22 ?_;refine need_intro ⟨by simp; omega,by simp [DV.cells]⟩ ?_;refine gO Tryz.func22 ?_;refine AWL.back (JH (j+1) (by omega) (by omega)) ?_;rw [hnew2];(conv=>whnf);repeat (first | exact trivial | (refine sI ?_; conv=>whnf))
     refine And.intro (by simp) ?_;(conv=>whnf);repeat (first | exact trivial | (refine sI ?_; conv=>whnf))
    ·have hnew2:newC fin x.time (x.stage.puts.take (j+1))=newC fin x.time (x.stage.puts.take j):=by rw [hnew,hstop]; simp
     refine caseB_no rfl ?_;refine gO Tryz.func22 ?_;refine AWL.back (JH (j+1) (by omega) (by omega)) ?_;rw [hnew2];(conv=>whnf);repeat (first | exact trivial | (refine sI ?_; conv=>whnf))
   ·have hge:x.stage.puts.length≤j:=by simpa using h6
    rw [List.take_of_length_le hge];refine gO Tryz.func22 ?_;refine AWL.freeze 9 ?_;(conv=>whnf);refine AWL.back (IH (k+1) (by omega) (by omega)) ?_;rw [hnext,stepTo];(conv=>whnf);repeat (first | exact trivial | (refine sI ?_; conv=>whnf))
  ·have hge:l.length≤k:=by simpa using h5
   rw [List.take_of_length_le hge];refine gO Tryz.func22 ?_;have hll2:(runS fin copies l).length≤1000000:=by have:=hrl l.length (Nat.le_refl _); rw [List.take_length] at this; omega
   with_reducible refine callS_any (tooMany_p (runS fin copies l) hll2) ?_
   rintro r h1 ⟨es,e1,e2⟩;subst e1;subst e2;cases hm:manyB (runS fin copies l)
   ·have e1:applyN ⟨hosts,copies,anchor,hints,drift,fin⟩ l=0:=by simp [applyN,hv,hm]
    have e3:applyH ⟨hosts,copies,anchor,hints,drift,fin⟩ l=⟨hosts,runS fin copies l,anchor,hints,drift,fin⟩:=by simp [applyH,e1]
    have e2:applyD ⟨hosts,copies,anchor,hints,drift,fin⟩ l = .tup [(⟨hosts,runS fin copies l,anchor,hints,drift,fin⟩:History).enc,.int .i64 0]:=by simp [applyD,e1,e3]
    rw [e2];refine gO Tryz.func22 ?_;refine caseB_false ?_;refine gO Tryz.func22 ?_;clear IH hrl hm e1 e2 e3;generalize runS fin copies l=C at *;cases C with
    |nil =>
     refine callP_eq (cloneCopy_p [] (by simp) (by simp)) ?_;refine gO Tryz.func22 ?_;refine AWL.unroll ?_;refine AWL.run E_ok Tryz.func22 2000 ?_;(conv=>whnf);refine caseB_no (by simp) ?_;refine gO Tryz.func22 ?_
     with_reducible refine callP_eq (cloneHost_p (hosts.map Host.enc) (by simpa using hho) (fun e h=>by obtain ⟨c,_,rfl⟩:=List.mem_map.1 h; simp [DV.cells])) ?_
     refine gO Tryz.func22 ?_
     with_reducible refine callP_eq (cloneDatum_p (anchor.data.map Datum.enc) (by simpa using hdat) (fun e h=>by obtain ⟨c,_,rfl⟩:=List.mem_map.1 h; simp [DV.cells])) ?_
     refine gO Tryz.func22 ?_
     with_reducible refine callP_eq (cloneInt_p (hints.map (.int .i64)) (by simpa using hhi) (fun e h=>by obtain ⟨c,_,rfl⟩:=List.mem_map.1 h; simp [DV.cells])) ?_
     refine gO Tryz.func22 ?_;rfl
    |cons c0 C =>
     have hne:c0::C≠[]:=by simp
     generalize c0::C=L at *;refine callP_own (cloneCopy_a (L.map Copy.enc) (by simpa using hne) (by simp; omega) (fun e h=>by obtain ⟨c,_,rfl⟩:=List.mem_map.1 h; rfl)) rfl ?_;refine gO Tryz.func22 ?_;refine AWL.loop (κ:=Nat) ([12]++rg 70 16) (fun k=>[(70,.d (.int .i64 k))]) (fun k=>[(3,.arr 1 (83,5) (L.map Copy.enc))]) (fun k=>k≤L.length) (fun k=>L.length - k) 0 (Nat.zero_le _) ?_ ?_
     ·(conv=>whnf);repeat (first | exact trivial | (refine sI ?_; conv=>whnf))
     intro k hk IH;refine AWL.head E_ok Tryz.func22 2000 ?_;(conv=>whnf);refine caseB_split (fun h5=>?_) (fun h5=>?_)
     ·have hlt:k<L.length:=by simpa using h5
      obtain ⟨x,hx⟩:=some_of_lt hlt;have hb:0≤(k:Int)∧(k:Int)<((L.map Copy.enc).length:Int):=⟨by omega,by simp; omega⟩;have hset:(L.map Copy.enc).set (k:Int).toNat (DV.agg [.int .i64 x.host,.int .i64 x.frm,.int .i64 x.upto,.str x.zone.apex,.sl (x.zone.sets.map Signed.enc)])=L.map Copy.enc:=copies_same hx;refine gO Tryz.func22 ?_;refine AWL.draw E_ok E_mixed 12 2000 (by kernel_rfl) ?_;(conv=>whnf);refine need_intro hb ?_;refine gD ?_;refine elemP_at (e:=x.enc) (at_map hx) rfl ?_;refine gD ?_
      with_reducible refine callP1_eq (cloned_p x.zone (hsh x (List.mem_of_getElem? hx))) ?_
      refine gD ?_;refine need_intro hb ?_;refine gD ?_;refine gS ?_;refine elemP_at (e:=x.enc) (at_map hx) rfl ?_;refine gS ?_;rw [hset];refine gO Tryz.func22 ?_;refine AWL.back (IH (k+1) (by omega) (by omega)) ?_;(conv=>whnf);repeat (first | exact trivial | (refine sI ?_; conv=>whnf))
     ·refine gO Tryz.func22 ?_
      with_reducible refine callP_eq (cloneHost_p (hosts.map Host.enc) (by simpa using hho) (fun e h=>by obtain ⟨c,_,rfl⟩:=List.mem_map.1 h; simp [DV.cells])) ?_
      refine gO Tryz.func22 ?_
      with_reducible refine callP_eq (cloneDatum_p (anchor.data.map Datum.enc) (by simpa using hdat) (fun e h=>by obtain ⟨c,_,rfl⟩:=List.mem_map.1 h; simp [DV.cells])) ?_
      refine gO Tryz.func22 ?_
      with_reducible refine callP_eq (cloneInt_p (hints.map (.int .i64)) (by simpa using hhi) (fun e h=>by obtain ⟨c,_,rfl⟩:=List.mem_map.1 h; simp [DV.cells])) ?_
      refine gO Tryz.func22 ?_
      with_reducible rfl
   ·have e1:applyN ⟨hosts,copies,anchor,hints,drift,fin⟩ l=2:=by simp [applyN,hv,hm]
    have e2:applyD ⟨hosts,copies,anchor,hints,drift,fin⟩ l = .tup [.agg [.nilsl,.nilsl,.str [],.int .i64 0,.int .i64 0,.nilsl,.nilsl,.int .i64 0,.int .i64 0],.int .i64 2]:=by simp [applyD,e1]
    rw [e2];refine gO Tryz.func22 ?_;refine caseB_true ?_;refine gO Tryz.func22 ?_
    with_reducible rfl
theorem apply_p (h:History) (l:List Step) (hf:h.Fits) (hk1:h.copies.length≤1000000) (hs:Steps.Fits l):PCalls E 22 [h.enc,.sl (l.map Step.enc)] (· = .tup [(applyH h l).enc,.int .i64 (applyN h l)]):=by
 have H:=apply_raw h l hf hk1 hs;by_cases h0:applyN h l=0
 ·refine H.mono fun r e=>?_;rw [e,applyD,if_pos h0,h0]
 ·refine PCalls.norm (H.mono fun r e=>?_);rw [e,applyD,if_neg h0,applyH,if_neg h0];rfl
end Go.Proofs.YtajnanldmhpeaaaGreatDoor.P
end
