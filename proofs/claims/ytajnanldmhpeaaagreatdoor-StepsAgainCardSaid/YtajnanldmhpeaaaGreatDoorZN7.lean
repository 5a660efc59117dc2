/- Several texts of mine, one behind the other. Conditions: as each says. -/
import Derived.Test.YtajnanldmhpeaaaGreatDoorZN5
import Derived.Test.YtajnanldmhpeaaaGreatDoorZSrtS
set_option linter.unusedVariables false
set_option linter.unusedSimpArgs false
section
namespace Go.Eng
open Go Go.RowKit
theorem AWL.permRows {E:Env} {fid:FuncId} {R:Post} {td:List AItem} {s:List AV} {h:List Box} {lits:List Nat} {rows:List Ghost} (hp:R.rows.Perm rows) (H:AWL E fid ⟨R.n,R.Q,rows,R.fx⟩ lits td s h):AWL E fid R lits td s h:=by
 replace H:=H.to;refine .of ?_;unfold AW at H ⊢;intro c0 c t ts h0 h1 h2 h3 hr hrow h4 h5 cs;refine H c0 c t ts h0 h1 h2 h3 hr ⟨⟨fun g hg=>hrow.all.each g ?_,?_⟩,fun g hg=>hrow.flat g (hp.mem_iff.2 hg)⟩ h4 h5 cs
 ·exact ((hp.append_right R.fx.loops).mem_iff).2 hg
 ·exact (((hp.append_right R.fx.loops).flatMap_right Ghost.blks).nodup_iff).1 hrow.all.nodup
theorem ev_at {G:List (Nat × DV)} {s:List AV} {i:Nat} {v:AV} (h:s[i]? = some v):EvOK G s (.tmp i) v:=fun c a _ hs=>by
 have hl:i<a.tmps.size:=by rw [← hs.1]; exact lt_of_getElem? h
 have:a.eval (.tmp i)=a.tmps[i]:=by simp [Act.eval,hl]
 rw [this];exact hs.2 i v _ h (by simp [hl])
end Go.Eng
namespace Go.Proofs.YtajnanldmhpeaaaGreatDoor.P
open Go Go.Eng
set_option maxRecDepth 100000
set_option maxHeartbeats 4000000
theorem nodup_at {α:Type} {l:List α} (hn:l.Nodup) {i j:Nat} {a:α} (hi:l[i]? = some a) (hj:l[j]? = some a):i=j:=by
 obtain ⟨p1,e1⟩:=List.getElem?_eq_some_iff.1 hi;obtain ⟨p2,e2⟩:=List.getElem?_eq_some_iff.1 hj;have h:=List.pairwise_iff_getElem.1 (List.nodup_iff_pairwise_ne.1 hn);rcases Nat.lt_trichotomy i j with hij | hij | hij
 ·exact absurd (e1.trans e2.symm) (h i j p1 p2 hij)
 ·exact hij
 ·exact absurd (e2.trans e1.symm) (h j i p2 p1 hij)
def Copy.spot (c:Copy):Spot:=(c.host,c.zone.apex)
def Copy.span (c:Copy):Span:=⟨c.frm,c.upto⟩
def copyOK (hosts:Nat) (fin:Int) (c:Copy):Bool:=decide (0≤c.host)&&decide (c.host<hosts)&&decide (0≤c.frm)&&decide (c.frm<c.upto)&&decide (c.upto≤fin)&&zoneR c.zone
def Apart2 (d c:Copy):Prop:=d.spot=c.spot→¬ (d.frm<c.upto∧c.frm<d.upto)
instance (d c : Copy) : Decidable (Apart2 d c) := by unfold Apart2; infer_instance
def apexN (l:List Copy):Nat:=(nub [] (l.map (·.zone.apex))).length
def histB (h:History):Bool:=decide (1≤h.fin)&&decide (h.fin≤10000000)&&decide (0≤h.drift)&&decide (h.drift≤1000)&&decide (h.copies.length≤4000)&&(hostsB h.hosts&&rootB h.anchor h.hints) &&
 h.copies.all (copyOK h.hosts.length h.fin)&&decide (h.copies.Pairwise Apart2)&&decide (apexN h.copies≤500)
structure History.Fits (h:History):Prop where
 hosts:∀ x∈h.hosts,x.name.length≤maxLen
 anchor:h.anchor.Fits
 hints:h.hints.length≤maxLen
 zones:∀ c∈h.copies,c.zone.Fits
structure RD where
 p:Spot
 l:List Span
 blk:Nat
 cap:Nat
def RD.slice (d:RD):Value := .slice (some ⟨d.blk,0,none⟩) d.l.length d.cap
def RD.ent (d:RD):DV × DV:=(Spot.en d.p,.raw d.slice)
def RD.ghost (d:RD):Ghost := .row ⟨d.blk,d.cap,(142,2),d.l.map Span.enc⟩
structure RDs (l:List Copy) (ds:List RD):Prop where
 nodup:(ds.map (·.p)).Nodup
 each:∀ d∈ds,d.l=(l.filter (fun c=>decide (c.spot=d.p))).map Copy.span∧d.l≠[]
 all:∀ c∈l,∃ d∈ds,d.p=c.spot
theorem RDs.nil:RDs [] []:=⟨by simp,fun d hd=>by simp at hd,fun c hc=>by simp at hc⟩
def Clear (l:List Span):Prop:=l.Pairwise fun a b=>¬ (a.frm<b.upto∧b.frm<a.upto)
theorem clear_perm {l m:List Span} (h:l.Perm m):Clear l↔Clear m:=h.pairwise_iff fun {x y} h1 h2=>h1 ⟨h2.2,h2.1⟩
theorem apart_iff {l:List Copy} {ds:List RD} (h:RDs l ds):l.Pairwise Apart2↔∀ d∈ds,Clear d.l:=by
 have each:∀ d∈ds,(Clear d.l↔l.Pairwise (fun a b=>a.spot=d.p→b.spot=d.p→¬ (a.frm<b.upto∧b.frm<a.upto))):=fun d hd=>by
  rw [(h.each d hd).1,Clear,List.pairwise_map,List.pairwise_filter];simp only [decide_eq_true_eq];rfl
 constructor
 ·intro hp d hd;rw [each d hd];exact hp.imp fun {a b} hab h1 h2=>hab (h1.trans h2.symm)
 ·intro hc;rw [List.pairwise_iff_getElem];intro i j hi hj hij hs;obtain ⟨d,hd,e⟩:=h.all l[i] (List.getElem_mem hi);have:=(each d hd).1 (hc d hd);rw [List.pairwise_iff_getElem] at this;exact this i j hi hj hij e.symm (hs.symm.trans e.symm)
theorem clear_of_steps {l:List Span} (hw:∀ a∈l,a.frm<a.upto) (h:∀ (m:Nat) (a b:Span),l[m]? = some a→l[m+1]? = some b→a.upto≤b.frm):Clear l:=by
 have main:∀ (n i:Nat) (a b:Span),l[i]? = some a→l[i+1+n]? = some b→a.upto≤b.frm:=by
  intro n
  induction n with
  |zero=>intro i a b ha hb; exact h i a b ha hb
  |succ n ih =>
   intro i a b ha hb;obtain ⟨c,hc⟩:∃ c,l[i+1+n]? = some c:=some_of_lt (by have:=lt_of_getElem? hb; omega);have h1:=ih i a c ha hc;have h2:=h (i+1+n) c b hc hb;have h3:=hw c (List.mem_of_getElem? hc);omega
 unfold Clear;rw [List.pairwise_iff_getElem];intro i j hi hj hij h2;have:=main (j - i - 1) i l[i] l[j] (by simp) (by rw [show i+1+(j - i - 1)=j by omega]; simp);omega
theorem not_clear {l:List Span} (hw:∀ a∈l,a.frm<a.upto) (hs:l.Pairwise (fun a b=>a.frm≤b.frm)) {i:Nat} {a b:Span} (h0:0<i) (ha:l[i - 1]? = some a) (hb:l[i]? = some b) (h:b.frm<a.upto):¬ Clear l:=fun hc=>by
 obtain ⟨p1,e1⟩:=List.getElem?_eq_some_iff.1 ha;obtain ⟨p2,e2⟩:=List.getElem?_eq_some_iff.1 hb;have h1:=List.pairwise_iff_getElem.1 hc (i - 1) i p1 p2 (by omega);have h2:=List.pairwise_iff_getElem.1 hs (i - 1) i p1 p2 (by omega);have h3:=hw b (List.mem_of_getElem? hb);rw [e1,e2] at h1 h2;exact h1 ⟨by omega,h⟩
theorem filt_none {l:List Copy} {p:Spot} {ds:List RD} (h:RDs l ds) (hn:∀ d∈ds,d.p≠p):l.filter (fun c=>decide (c.spot=p))=[]:=by
 rw [List.filter_eq_nil_iff];intro c hc hp;obtain ⟨d,hd,e⟩:=h.all c hc;exact hn d hd (e.trans (by simpa using hp))
theorem RDs.found {l:List Copy} {p1 p2:List RD} {d:RD} {c:Copy} (h:RDs l (p1++d::p2)) (hp:d.p=c.spot) (blk cap:Nat):RDs (l++[c]) (p1++⟨c.spot,d.l++[c.span],blk,cap⟩::p2):=by
 have hnd:=h.nodup;simp only [List.map_append,List.map_cons] at hnd;have hne:∀ e,e∈p1∨e∈p2→e.p≠c.spot:=fun e he q=>by
  rw [List.nodup_append] at hnd;obtain ⟨h1,h2,h3⟩:=hnd;rw [List.nodup_cons] at h2;rcases he with he | he
  ·exact h3 e.p (List.mem_map_of_mem he) d.p (List.mem_cons_self ..) (q.trans hp.symm)
  ·exact h2.1 (List.mem_map.2 ⟨e,he,q.trans hp.symm⟩)
 have hold:∀ e,e∈p1∨e∈p2→e.l=((l++[c]).filter (fun c=>decide (c.spot=e.p))).map Copy.span∧e.l≠[]:=fun e he=>by
  have h1:=h.each e (by rcases he with he | he <;> simp [he]);have h2:¬ c.spot=e.p:=fun q=>hne e he q.symm;refine ⟨?_,h1.2⟩;rw [List.filter_append,List.filter_cons_of_neg (by simpa using h2),List.filter_nil,List.append_nil];exact h1.1
 refine ⟨?_,fun e he=>?_,fun x hx=>?_⟩
 ·simp only [List.map_append,List.map_cons];rw [← hp];exact hnd
 ·rcases List.mem_append.1 he with he | he
  ·exact hold e (.inl he)
  ·rcases List.mem_cons.1 he with rfl | he
   ·have h1:=h.each d (by simp);refine ⟨?_,by simp⟩;show d.l++[c.span]=_;rw [List.filter_append,List.filter_cons_of_pos (by simp),List.filter_nil,List.map_append,h1.1,hp];rfl
   ·exact hold e (.inr he)
 ·rcases List.mem_append.1 hx with hx | hx
  ·obtain ⟨e,he,q⟩:=h.all x hx;rcases List.mem_append.1 he with he | he
   ·exact ⟨e,by simp [he],q⟩
   ·rcases List.mem_cons.1 he with rfl | he
    ·exact ⟨⟨c.spot,e.l++[c.span],blk,cap⟩,by simp,hp.symm.trans q⟩
    ·exact ⟨e,by simp [he],q⟩
  ·simp at hx;subst hx;exact ⟨⟨x.spot,d.l++[x.span],blk,cap⟩,by simp,rfl⟩
theorem RDs.new {l:List Copy} {ds:List RD} {c:Copy} (h:RDs l ds) (hn:∀ d∈ds,d.p≠c.spot) (blk cap:Nat):RDs (l++[c]) (ds++[⟨c.spot,[c.span],blk,cap⟩]):=by
 refine ⟨?_,fun e he=>?_,fun x hx=>?_⟩
 ·rw [List.map_append,List.nodup_append];refine ⟨h.nodup,by simp,fun a ha b hb q=>?_⟩;simp at hb;subst hb; subst q;obtain ⟨d,hd,q⟩:=List.mem_map.1 ha;exact hn d hd q
 ·rcases List.mem_append.1 he with he | he
  ·have h1:=h.each e he;have h2:¬ c.spot=e.p:=fun q=>hn e he q.symm;refine ⟨?_,h1.2⟩;rw [List.filter_append,List.filter_cons_of_neg (by simpa using h2),List.filter_nil,List.append_nil];exact h1.1
  ·simp at he;subst he;refine ⟨?_,by simp⟩;show [c.span]=_;rw [List.filter_append,List.filter_cons_of_pos (by simp),List.filter_nil,filt_none h hn];rfl
 ·rcases List.mem_append.1 hx with hx | hx
  ·obtain ⟨e,he,q⟩:=h.all x hx;exact ⟨e,by simp [he],q⟩
  ·simp at hx;subst hx;exact ⟨⟨x.spot,[x.span],blk,cap⟩,by simp,rfl⟩
theorem RDs.len {l:List Copy} {ds:List RD} (h:RDs l ds) {d:RD} (hd:d∈ds):d.l.length≤l.length:=by
 rw [(h.each d hd).1,List.length_map];exact List.length_filter_le _ _
theorem ent_found {ds:List RD}:∀ {i:Nat} {d:RD},ds[i]? = some d→(ds.map (·.p)).Nodup→findD (Spot.en d.p) (ds.map RD.ent)=some (.raw d.slice)∧findI (Spot.en d.p) (ds.map RD.ent)=some i∧putD (Spot.en d.p) (.raw d.slice) (ds.map RD.ent)=ds.map RD.ent:=by
 induction ds with
 |nil=>intro i d h; simp at h
 |cons e ds ih =>
  intro i d h hn;simp only [List.map_cons,List.nodup_cons] at hn;cases i with
  |zero =>
   simp at h;subst h;simp [findD,findI,putD,RD.ent,keyEq_spot]
  |succ i =>
   have h':ds[i]? = some d:=by simpa using h
   have hne:¬ d.p=e.p:=fun q=>hn.1 (List.mem_map.2 ⟨d,List.mem_of_getElem? h',q⟩);obtain ⟨h1,h2,h3⟩:=ih h' hn.2;simp only [List.map_cons,findD,findI,putD,RD.ent,keyEq_spot,hne,decide_false,Bool.false_eq_true,if_false];exact ⟨h1,by rw [h2]; rfl,by rw [h3]⟩
theorem ent_none {p:Spot} {v:DV}:∀ {ds:List RD},(∀ d∈ds,d.p≠p)→findD (Spot.en p) (ds.map RD.ent)=none∧findI (Spot.en p) (ds.map RD.ent)=none∧putD (Spot.en p) v (ds.map RD.ent)=ds.map RD.ent++[(Spot.en p,v)]
 | [],_=>by simp [findD,findI,putD]
 |e::ds,h=>by
  have hne:¬ p=e.p:=fun q=>h e (List.mem_cons_self ..) q.symm;obtain ⟨h1,h2,h3⟩:=ent_none (p:=p) (v:=v) (ds:=ds) (fun d hd=>h d (List.mem_cons_of_mem _ hd));simp only [List.map_cons,findD,findI,putD,RD.ent,keyEq_spot,hne,decide_false,Bool.false_eq_true,if_false];exact ⟨h1,by rw [h2]; rfl,by rw [h3]; rfl⟩
theorem fit_spot (p:Spot):FitK E.T (TK.struct [(0,3),(1,9)]) (Spot.en p):=⟨_,rfl,rfl,⟨_,rfl,_,rfl⟩,rfl,⟨_,rfl,_,rfl⟩,trivial⟩
theorem fit_ents {ds:List RD}:∀ p∈ds.map RD.ent,FitK E.T (TK.struct [(0,3),(1,9)]) p.1:=fun p hp=>by
 obtain ⟨d,-,rfl⟩:=List.mem_map.1 hp;exact fit_spot d.p
theorem hvalid_p (h:History) (hf:h.Fits) (hk1:h.copies.length≤1000000):PCalls E 38 [h.enc] (· = .bool (histB h)):=by
 obtain ⟨hosts,copies,anchor,hints,drift,fin⟩:=h;obtain ⟨hf1,hf2,hf3,hf4⟩:=hf;simp only at hf1 hf2 hf3 hf4 hk1;show PCalls E _ [DV.agg [.sl (hosts.map Host.enc),.sl (copies.map Copy.enc),.str anchor.name,.int .i64 anchor.type,.int .i64 anchor.life,.sl (anchor.data.map Datum.enc),.sl (hints.map (.int .i64)),.int .i64 drift,.int .i64 fin]] _;refine eP Tryz.func38 ?_;repeat' (first | with_reducible refine callP_eq (worldValid0_p hosts anchor hints hf1 hf2 hf3) ?_ | with_reducible refine callP1_eq (worldValid0_p hosts anchor hints hf1 hf2 hf3) ?_ | with_reducible refine cY ?_ | with_reducible refine cN ?_ | with_reducible refine caseB_split (fun _=>?_) (fun _=>?_) | refine gA Tryz.func38 ?_ | refine gB ?_ | refine gC ?_ | with_reducible rfl)
 all_goals try (congr 1; simp_all [histB]; done)
 all_goals try (congr 1; simp_all [histB]; omega; done)
 ·rename_i h6;have hw:(hostsB hosts&&rootB anchor hints)=false:=by
   cases hq:(hostsB hosts&&rootB anchor hints)
   ·rfl
   ·rw [hq] at h6; cases h6
  simp only [histB,hw];simp
 rename_i h1 h2 h3 h4 h5 h6;have hw:(hostsB hosts&&rootB anchor hints)=true:=by
  cases hq:(hostsB hosts&&rootB anchor hints)
  ·rw [hq] at h6; cases h6
  ·rfl
 have hsc:1≤fin∧fin≤10000000∧0≤drift∧drift≤1000∧copies.length≤4000:=by simp at h1 h2 h3 h4 h5; omega
 have hval:histB ⟨hosts,copies,anchor,hints,drift,fin⟩=(copies.all (copyOK hosts.length fin)&&decide (copies.Pairwise Apart2)&&decide (apexN copies≤500)):=by
  simp only [histB,hw];simp [hsc.1,hsc.2.1,hsc.2.2.1,hsc.2.2.2.1,hsc.2.2.2.2,Bool.and_assoc]
 rw [hval];clear hval h1 h2 h3 h4 h5 h6 hw;refine gO Tryz.func38 ?_;refine gO Tryz.func38 ?_;refine AWL.loopR (κ:=Nat × List RD) [2,5,6,47,48,49,50,51,52,53,54,55,56,57,58,59,60,61,62,63,64,65,66,67,68,69,70,71,72,73,74,75,76,77,78,79,80,81,82,83,84,85,86,87,88,89,90,91,92,93,94,95,96,97,98,99,100,101,102,103] (fun x=>[(47,.d (.int .i64 x.1)),(2,.d (.bool false)),(3,.map 1)]) (fun x=>[(1,.map (x.2.map RD.ent))]) (fun x=>x.2.map RD.ghost) (fun x=>x.1≤copies.length∧(copies.take x.1).all (copyOK hosts.length fin)=true∧RDs (copies.take x.1) x.2) (fun x=>copies.length - x.1) (0,[]) ⟨Nat.zero_le _,rfl,RDs.nil⟩ rfl ?_ ?_
 ·(conv=>whnf);repeat (first | exact trivial | (refine sI ?_; conv=>whnf))
  refine And.intro rfl ?_;(conv=>whnf);repeat (first | exact trivial | (refine sI ?_; conv=>whnf))
 rintro ⟨k,ds⟩ ⟨hk,hall,hds⟩ IH;simp only at hk hall hds;refine AWL.head E_ok Tryz.func38 2000 ?_;(conv=>whnf);refine caseB_split (fun h5=>?_) (fun h5=>?_)
 ·have hlt:k<copies.length:=by simpa using h5
  obtain ⟨c,hc⟩:=some_of_lt hlt;have hcf:=hf4 c (List.mem_of_getElem? hc);refine gO Tryz.func38 ?_;refine elemP_at (e:=c.enc) (at_map hc) rfl ?_;refine gO Tryz.func38 ?_;repeat' (first | with_reducible refine callP_eq (zvalid_p c.zone hcf) ?_ | with_reducible refine callP1_eq (zvalid_p c.zone hcf) ?_ | with_reducible refine cY ?_ | with_reducible refine cN ?_ | with_reducible refine caseB_split (fun _=>?_) (fun _=>?_) | refine gA Tryz.func38 ?_ | refine gB ?_ | refine gC ?_ | with_reducible rfl)
  all_goals try (have hno:copyOK hosts.length fin c=false:=by (simp_all [copyOK] <;> omega))
  all_goals try (rw [all_no hc hno]; simp; done)
  rename_i h1 h2 h3 h4 h5 h6;have hok:copyOK hosts.length fin c=true:=by simp_all [copyOK]
  have hspot:Spot.en c.spot = .agg [.int .i64 c.host,.str c.zone.apex]:=rfl;refine gO Tryz.func38 ?_;by_cases hex:∃ d∈ds,d.p=c.spot
  ·obtain ⟨d,hd,hdp⟩:=hex;obtain ⟨p1,p2,rfl⟩:=List.append_of_mem hd;have hi:(p1++d::p2)[p1.length]? = some d:=by simp
   obtain ⟨e1,e2,e3⟩:=ent_found hi hds.nodup;rw [hdp] at e1 e2 e3;rw [hspot] at e1 e2 e3;have hdl:=hds.len hd;have hset:∀ d':RD,(p1++d::p2).set p1.length d'=p1++d'::p2:=fun d'=>by simp
   refine AWL.mapEntry E_ok (.raw (.slice none 0 0)) (.slice none 0 0) (.raw d.slice) p1.length ((p1++d::p2).map RD.ent) rfl rfl (fun _ _ => .raw _ rfl) ?_;(conv=>whnf);refine And.intro ⟨fit_spot c.spot,fit_ents⟩ (And.intro (fun w=>by kernel_rfl) (And.intro ⟨by rw [e1]; rfl,by rw [e2]; rfl,e3⟩ ?_));(conv=>whnf);refine AWL.run E_ok Tryz.func38 1 ?_;(conv=>whnf);refine AWL.borrow 93 (rw_:=⟨d.blk,d.cap,(142,2),d.l.map Span.enc⟩) (n:=d.l.length) (g1:=p1.map RD.ghost) (g2:=p2.map RD.ghost) (by show (p1++d::p2).map RD.ghost=_; simp [RD.ghost]) rfl (by simp) ?_;refine gO Tryz.func38 ?_;refine need_intro ⟨by simp at hdl ⊢; omega,by simp [DV.cells]⟩ ?_;refine gO Tryz.func38 ?_;refine AWL.bury 101 4 rfl (Nat.zero_le _) rfl (fun hnil=>by simp at hnil) (fun blk cap=>?_);refine AWL.entryStore E_ok p1.length (k0:=Spot.en c.spot) (x0 := .raw d.slice) rfl rfl ?_;(conv=>whnf);refine And.intro (by simp [RD.ent,hdp]) ?_;(conv=>whnf);refine And.intro rfl ?_;(conv=>whnf);refine gO Tryz.func38 ?_;refine AWL.permRows (rows:=(p1++⟨c.spot,d.l++[c.span],blk,cap⟩::p2).map RD.ghost) ?_ ?_
   ·have e:(p1++(⟨c.spot,d.l++[c.span],blk,cap⟩:RD)::p2).map RD.ghost=p1.map RD.ghost ++ .row ⟨blk,cap,(142,2),d.l.map Span.enc++[DV.agg [.int .i64 c.frm,.int .i64 c.upto]]⟩::p2.map RD.ghost:=by simp [RD.ghost,Copy.span]
    rw [e];exact List.perm_middle.symm
   refine AWL.back (IH (k+1,p1++⟨c.spot,d.l++[c.span],blk,cap⟩::p2) ⟨by simp only; omega,all_next hall hc hok,by simp only; rw [take_next hc]; exact hds.found hdp blk cap⟩ (by simp only; omega)) ?_;(conv=>whnf);repeat (first | exact trivial | (refine sI ?_; conv=>whnf))
   refine And.intro (by simp [RD.ent,RD.slice,Copy.span]) ?_;(conv=>whnf);repeat (first | exact trivial | (refine sI ?_; conv=>whnf))
  ·have hno:∀ d∈ds,d.p≠c.spot:=fun d hd e=>hex ⟨d,hd,e⟩;obtain ⟨e1,e2,e3⟩:=ent_none (v := .raw (.slice none 0 0)) hno;rw [hspot] at e1 e2 e3;refine AWL.mapEntry E_ok (.raw (.slice none 0 0)) (.slice none 0 0) (.raw (.slice none 0 0)) ds.length (ds.map RD.ent++[(Spot.en c.spot,.raw (.slice none 0 0))]) rfl rfl (fun _ _ => .raw _ rfl) ?_;(conv=>whnf);refine And.intro ⟨fit_spot c.spot,fit_ents⟩ (And.intro (fun w=>by kernel_rfl) (And.intro ⟨by rw [e1]; rfl,by rw [e2]; simp,e3⟩ ?_));(conv=>whnf);refine AWL.run E_ok Tryz.func38 1 ?_;(conv=>whnf);refine AWL.adoptRaw 93 (142,2) (by decide) rfl ?_;refine gO Tryz.func38 ?_;refine need_intro ⟨by simp,by simp [DV.cells]⟩ ?_;refine gO Tryz.func38 ?_;refine AWL.bury 101 4 rfl (Nat.zero_le _) rfl (fun hnil=>by simp at hnil) (fun blk cap=>?_);refine AWL.entryStore E_ok ds.length (k0:=Spot.en c.spot) (x0 := .raw (.slice none 0 0)) rfl rfl ?_;(conv=>whnf);refine And.intro (by simp) ?_;(conv=>whnf);refine And.intro rfl ?_;(conv=>whnf);refine gO Tryz.func38 ?_;refine AWL.permRows (rows:=(ds++[(⟨c.spot,[c.span],blk,cap⟩:RD)]).map RD.ghost) ?_ ?_
   ·have e:(ds++[(⟨c.spot,[c.span],blk,cap⟩:RD)]).map RD.ghost=ds.map RD.ghost++[.row ⟨blk,cap,(142,2),[]++[DV.agg [.int .i64 c.frm,.int .i64 c.upto]]⟩]:=by simp [RD.ghost,Copy.span]
    rw [e];exact (List.perm_append_singleton _ _).symm
   refine AWL.back (IH (k+1,ds++[⟨c.spot,[c.span],blk,cap⟩]) ⟨by simp only; omega,all_next hall hc hok,by simp only; rw [take_next hc]; exact hds.new hno blk cap⟩ (by simp only; omega)) ?_;(conv=>whnf);repeat (first | exact trivial | (refine sI ?_; conv=>whnf))
   refine And.intro (by simp [RD.ent,RD.slice,Copy.span]) ?_;(conv=>whnf);repeat (first | exact trivial | (refine sI ?_; conv=>whnf))
 ·have hge:copies.length≤k:=by simpa using h5
  rw [List.take_of_length_le hge] at hall hds;have hw:∀ d∈ds,∀ a∈d.l,a.frm<a.upto:=fun d hd a ha=>by
   rw [(hds.each d hd).1] at ha;obtain ⟨x,hx,rfl⟩:=List.mem_map.1 ha;have:=List.all_eq_true.1 hall x (List.mem_filter.1 hx).1;simp only [copyOK,Bool.and_eq_true,decide_eq_true_eq] at this;exact this.1.1.2
  have hap:=apart_iff hds;rw [hall,Bool.true_and];refine gO Tryz.func38 ?_;refine AWL.range E_ok rfl rfl rfl rfl (ev_at rfl) rfl (Nat.zero_le _) (fun it hs0 hes hck=>?_);obtain ⟨bm,r,en,ck,since,seen,es⟩:=it;simp only at hs0 hes hck;subst hs0; subst hes;refine gO Tryz.func38 ?_;refine AWL.loopR (κ:=List Nat × List RD) ([3,43,104]++[2,8,9,106,107,108,109,110,111,112,113,114,115,116,117,118,119,120,121,122,123,124,125,126,127,128,129]) (fun _=>[(2,.d (.bool false))]) (fun _=>[]) (fun x => .iter ⟨bm,r,en,ck,since,x.1,ds.map RD.ent⟩::x.2.map RD.ghost) (fun x=>(∀ j d,ds[j]? = some d→j ∉ x.1→d∈x.2)∧(∀ d∈x.2,d∈ds)∧∀ j d,ds[j]? = some d→j∈x.1→Clear d.l) (fun x=>x.2.length) ([],ds) ⟨fun j d hd _=>List.mem_of_getElem? hd,fun _ h=>h,fun j d _ h=>by simp at h⟩ rfl ?_ ?_
  ·(conv=>whnf);repeat (first | exact trivial | (refine sI ?_; conv=>whnf))
  rintro ⟨seen,pd⟩ ⟨hun,hsub,hdone⟩ IH2;simp only at hun hsub hdone;refine AWL.head E_ok Tryz.func38 2000 ?_;(conv=>whnf);refine AWL.next (it:=⟨bm,r,en,ck,since,seen,ds.map RD.ent⟩) (g1:=[]) (g2:=pd.map RD.ghost) rfl rfl hck rfl (ev_at rfl) (fun hall2=>?_) (fun j kk y hj hns=>?_)
  ·refine gO Tryz.func38 ?_;refine caseB_false ?_;refine gO Tryz.func38 ?_;have hcl:copies.Pairwise Apart2:=hap.2 fun d hd=>by
    obtain ⟨j,hj⟩:=List.getElem?_of_mem hd;have hl:=lt_of_getElem? hj;exact hdone j d hj (hall2 j (by simpa using hl))
   refine callS_any (unique_a copies hk1) ?_;rintro u b ⟨es',rfl,rfl⟩;refine gO Tryz.func38 ?_;simp only [hcl,decide_true,Bool.true_and,apexN,List.length_map]
   congr 2
   simp;omega
  ·obtain ⟨d,hdj,e⟩:∃ d,ds[j]? = some d∧RD.ent d=(kk,y):=by simpa using hj
   cases e;have hd:=List.mem_of_getElem? hdj;obtain ⟨p1,p2,rfl⟩:=List.append_of_mem (hun j d hdj hns);refine gO Tryz.func38 ?_;refine caseB_true ?_;refine gO Tryz.func38 ?_;refine AWL.entry (it:=⟨bm,r,en,ck,since,seen++[j],ds.map RD.ent⟩) (g1:=[]) (g2:=(p1++d::p2).map RD.ghost) (pre:=seen) (j:=j) rfl rfl rfl rfl hj (ev_at rfl) ?_;(conv=>whnf);refine AWL.run E_ok Tryz.func38 2 ?_;(conv=>whnf);refine AWL.borrow 8 (rw_:=⟨d.blk,d.cap,(142,2),d.l.map Span.enc⟩) (n:=d.l.length) (g1 := .iter ⟨bm,r,en,ck,since,seen++[j],ds.map RD.ent⟩::p1.map RD.ghost) (g2:=p2.map RD.ghost) (by show (_::(p1++d::p2).map RD.ghost)=_; simp [RD.ghost]) rfl (by simp) ?_;refine gO Tryz.func38 ?_;have hdne:d.l≠[]:=(hds.each d hd).2;have hdl:d.l.length≤copies.length:=hds.len hd;refine callS_any (sortSpan_a d.l hdne (by omega)) ?_;rintro u b ⟨rfl,l',hperm,hsort,rfl⟩;have hw':∀ a∈l',a.frm<a.upto:=fun a ha=>hw d hd a (hperm.mem_iff.1 ha);have hlen':l'.length≤copies.length:=by rw [hperm.length_eq]; exact hdl
   refine gO Tryz.func38 ?_;refine AWL.loop (κ:=Nat) ([2,9]++rg 112 18) (fun i=>[(9,.d (.int .i64 i)),(2,.d (.bool false))]) (fun _=>[]) (fun i=>1≤i∧i≤max 1 l'.length∧∀ (m:Nat) (a b:Span),m+1<i→l'[m]? = some a→l'[m+1]? = some b→a.upto≤b.frm) (fun i=>l'.length - i) 1 ⟨Nat.le_refl _,by omega,fun m a b h=>by omega⟩ ?_ ?_
   ·(conv=>whnf);repeat (first | exact trivial | (refine sI ?_; conv=>whnf))
   rintro i ⟨hi1,hi2,hadj⟩ IH3;refine AWL.head E_ok Tryz.func38 2000 ?_;(conv=>whnf);refine caseB_split (fun h6=>?_) (fun h6=>?_)
   ·have hlt:i<l'.length:=by simpa using h6
    obtain ⟨x,hx⟩:=some_of_lt hlt;obtain ⟨q,hq⟩:∃ q,l'[i - 1]? = some q:=some_of_lt (by omega);refine gO Tryz.func38 ?_;refine AWL.draw E_ok E_mixed 12 2000 (by kernel_rfl) ?_;(conv=>whnf);refine need_intro ⟨by omega,by simp; omega⟩ ?_;refine gD ?_;refine elemP_at (e:=x.enc) (at_map hx) rfl ?_;refine gD ?_;have hwr:IntKind.i64.wrap ((i:Int) - 1)=((i - 1:Nat):Int):=by rw [wrap64 (by omega) (by omega)]; omega
    refine need_intro ⟨by rw [hwr]; omega,by rw [hwr]; simp; omega⟩ ?_;refine gD ?_;refine elemP_at (e:=q.enc) (by rw [hwr,Int.toNat_natCast]; exact at_map hq) rfl ?_;refine gD ?_;refine gS ?_;refine gO Tryz.func38 ?_;refine caseB_split (fun h7=>?_) (fun h7=>?_)
    ·refine gO Tryz.func38 ?_;have hnp:¬ copies.Pairwise Apart2:=fun hp=>not_clear hw' hsort (by omega) hq hx (by simpa using h7) ((clear_perm hperm).2 (hap.1 hp d hd));simp [hnp]
    ·refine gO Tryz.func38 ?_;refine AWL.back (IH3 (i+1) ⟨by omega,by omega,fun m a b hm ha hb=>?_⟩ (by omega)) ?_
     ·by_cases hmi:m+1=i
      ·have e1:m=i - 1:=by omega
       subst e1;rw [hq] at ha;rw [hmi,hx] at hb;cases ha; cases hb
       simpa using h7
      ·exact hadj m a b (by omega) ha hb
     ·(conv=>whnf);repeat (first | exact trivial | (refine sI ?_; conv=>whnf))
   ·have hge2:l'.length≤i:=by simpa using h6
    have hcl:Clear d.l:=(clear_perm hperm).1 (clear_of_steps hw' fun m a b ha hb=>hadj m a b (by have:=lt_of_getElem? hb; omega) ha hb);refine gO Tryz.func38 ?_;refine AWL.permRows (rows := .iter ⟨bm,r,en,ck,since,seen++[j],ds.map RD.ent⟩::(p1++p2).map RD.ghost) (List.Perm.of_eq (by simp)) ?_;have hpn:=hds.nodup;refine AWL.back (IH2 (seen++[j],p1++p2) ⟨fun j' d' hd' hj'=>?_,fun d' hd'=>hsub d' (by simp at hd' ⊢; rcases hd' with h | h <;> simp [h]),fun j' d' hd' hj'=>?_⟩ (by simp)) ?_
    ·simp only at hd' hj' ⊢;rw [List.mem_append,List.mem_singleton,not_or] at hj';have h1:=hun j' d' hd' hj'.1;have hne:d'≠d:=fun e=>by
      subst e;have q1:(ds.map (·.p))[j']? = some d'.p:=by simp [hd']
      have q2:(ds.map (·.p))[j]? = some d'.p:=by simp [hdj]
      exact hj'.2 (nodup_at hpn q1 q2)
     rcases List.mem_append.1 h1 with h1 | h1
     ·exact List.mem_append_left _ h1
     ·rcases List.mem_cons.1 h1 with h1 | h1
      ·exact absurd h1 hne
      ·exact List.mem_append_right _ h1
    ·simp only at hj';rw [List.mem_append,List.mem_singleton] at hj';rcases hj' with hj' | rfl
     ·exact hdone j' d' hd' hj'
     ·rw [hdj] at hd';cases hd';exact hcl
    ·(conv=>whnf);repeat (first | exact trivial | (refine sI ?_; conv=>whnf))
end Go.Proofs.YtajnanldmhpeaaaGreatDoor.P
end
section
namespace Go.Proofs.YtajnanldmhpeaaaGreatDoor.P
open Go Go.Eng
set_option maxRecDepth 100000
set_option maxHeartbeats 4000000
theorem addr_twice {l:List Host} {i k:Nat} {x y:Host} (hx:l[i]? = some x) (hy:l[k]? = some y) (hk:k<i) (e:y.addr=x.addr):hostsB l=false:=by
 have:¬ (l.map (·.addr)).Nodup:=fun hn=>by
  have h1:(l.map (·.addr))[i]? = some x.addr:=by simp [hx]
  have h2:(l.map (·.addr))[k]? = some x.addr:=by simp [hy,e]
  have:=nodup_at hn h1 h2;omega
 simp [hostsB,this]
theorem nodup_take {l:List Int} {i:Nat} {x:Int} (h:(l.take i).Nodup) (hx:l[i]? = some x) (hn:∀ m y,m<i→l[m]? = some y→y≠x):(l.take (i+1)).Nodup:=by
 rw [take_next hx,List.nodup_append];refine ⟨h,by simp,fun a ha b hb e=>?_⟩;simp at hb;subst hb; subst e;obtain ⟨m,hm⟩:=List.getElem?_of_mem ha;rw [List.getElem?_take] at hm;split at hm
 ·rename_i hmi; exact hn m _ hmi hm rfl
 ·cases hm
theorem rhosts_p (l:List Host) (hn:∀ x∈l,x.name.length≤maxLen):PCalls E 96 [.sl (l.map Host.enc)] (· = .bool (hostsB l)):=by
 refine eP Tryz.func96 ?_;refine caseB_split (fun h1=>?_) (fun h1=>?_)
 ·refine gO Tryz.func96 ?_;have:hostsB l=false:=by simp [hostsB]; simp at h1; omega
  rw [this]
 ·have hlen:l.length≤64:=by simp at h1; omega
  refine gO Tryz.func96 ?_;refine AWL.loop (κ:=Nat) (rg 2 5++rg 10 53) (fun k=>[(3,.d (.int .i64 k)),(2,.d (.bool false))]) (fun _=>[]) (fun k=>k≤l.length∧(l.take k).all hostB=true∧((l.map (·.addr)).take k).Nodup) (fun k=>l.length - k) 0 ⟨Nat.zero_le _,rfl,by simp⟩ ?_ ?_
  ·(conv=>whnf);repeat (first | exact trivial | (refine sI ?_; conv=>whnf))
  rintro i ⟨hi,hall,hnd⟩ IH;refine AWL.head E_ok Tryz.func96 2000 ?_;(conv=>whnf);refine caseB_split (fun h5=>?_) (fun h5=>?_)
  ·have hlt:i<l.length:=by simpa using h5
   obtain ⟨x,hx⟩:=some_of_lt hlt;have hnx:=hn x (List.mem_of_getElem? hx);refine gO Tryz.func96 ?_;refine elemP_at (e:=x.enc) (at_map hx) rfl ?_;refine gO Tryz.func96 ?_
   with_reducible refine callP_eq (rvalid_p x.name hnx) ?_
   refine gO Tryz.func96 ?_;cases hv:Nm.valid x.name
   ·repeat' (first | with_reducible refine cY ?_ | with_reducible refine cN ?_ | with_reducible refine caseB_split (fun _=>?_) (fun _=>?_) | refine gA Tryz.func96 ?_ | refine gB ?_ | refine gC ?_ | with_reducible rfl)
    all_goals (rw [hostsB_no hx (by simp [hostB,hv])])
   ·have hvl:x.name.length≤1000:=by have:=valid_len hv; omega
    repeat' (first | with_reducible refine callP_eq (rwildL_p x.name hvl) ?_ | with_reducible refine callP1_eq (rwildL_p x.name hvl) ?_ | with_reducible refine cY ?_ | with_reducible refine cN ?_ | with_reducible refine caseB_split (fun _=>?_) (fun _=>?_) | refine gA Tryz.func96 ?_ | refine gB ?_ | refine gC ?_ | with_reducible rfl)
    all_goals try (rw [hostsB_no hx (by (simp_all [hostB,starB,addrB] <;> omega))]; done)
    have hb:hostB x=true:=by (simp_all [hostB,starB,addrB] <;> omega)
    refine gO Tryz.func96 ?_;refine AWL.loop (κ:=Nat) ([2,6]++rg 50 13) (fun k=>[(6,.d (.int .i64 k)),(2,.d (.bool false))]) (fun _=>[]) (fun k=>k≤i∧∀ m y,m<k→l[m]? = some y→y.addr≠x.addr) (fun k=>i - k) 0 ⟨Nat.zero_le _,fun m y h=>by omega⟩ ?_ ?_
    ·(conv=>whnf);repeat (first | exact trivial | (refine sI ?_; conv=>whnf))
    rintro k ⟨hk,hne⟩ IH2;refine AWL.head E_ok Tryz.func96 2000 ?_;(conv=>whnf);refine caseB_split (fun h6=>?_) (fun h6=>?_)
    ·have hlt2:k<i:=by simpa using h6
     obtain ⟨y,hy⟩:=some_of_lt (l:=l) (k:=k) (by omega);refine gO Tryz.func96 ?_;refine AWL.draw E_ok E_mixed 8 2000 (by kernel_rfl) ?_;(conv=>whnf);refine elemP_at (e:=y.enc) (at_map hy) rfl ?_;refine gD ?_;refine gS ?_;refine gO Tryz.func96 ?_;refine caseB_split (fun h7=>?_) (fun h7=>?_)
     ·refine gO Tryz.func96 ?_;rw [addr_twice hx hy hlt2 (by simpa using h7)]
     ·refine gO Tryz.func96 ?_;refine AWL.back (IH2 (k+1) ⟨by omega,fun m z hm hz=>?_⟩ (by omega)) ?_
      ·by_cases hmk:m=k
       ·subst hmk; rw [hy] at hz; cases hz; simpa using h7
       ·exact hne m z (by omega) hz
      ·(conv=>whnf);repeat (first | exact trivial | (refine sI ?_; conv=>whnf))
    ·have hge2:i≤k:=by simpa using h6
     refine gO Tryz.func96 ?_;refine AWL.back (IH (i+1) ⟨by omega,all_next hall hx hb,nodup_take (x:=x.addr) hnd (by simp [hx]) (fun m z hm hz=>?_)⟩ (by omega)) ?_
     ·simp only [List.getElem?_map,Option.map_eq_some_iff] at hz;obtain ⟨y,hy,rfl⟩:=hz;exact hne m y (by omega) hy
     ·(conv=>whnf);repeat (first | exact trivial | (refine sI ?_; conv=>whnf))
  ·have hge:l.length≤i:=by simpa using h5
   rw [List.take_of_length_le hge] at hall;rw [List.take_of_length_le (by simpa using hge)] at hnd;refine gO Tryz.func96 ?_;simp [hostsB,hall,hnd,hlen]
theorem rroots_p (a:RSet) (l:List Int) (hf:a.Fits) (hl:l.length≤1000000):PCalls E 97 [a.enc,.sl (l.map (.int .i64))] (· = .bool (rootB a l)):=by
 refine eP Tryz.func97 ?_;refine AWL.loop (κ:=Nat) ([4,5]++rg 7 18) (fun k=>[(5,.d (.int .i64 k)),(4,.d (.bool false))]) (fun _=>[]) (fun k=>k≤l.length∧(l.take k).all addrB=true) (fun k=>l.length - k) 0 ⟨Nat.zero_le _,rfl⟩ ?_ ?_
 ·(conv=>whnf);repeat (first | exact trivial | (refine sI ?_; conv=>whnf))
 rintro i ⟨hi,hall⟩ IH;refine AWL.head E_ok Tryz.func97 2000 ?_;(conv=>whnf);refine caseB_split (fun h5=>?_) (fun h5=>?_)
 ·have hlt:i<l.length:=by simpa using h5
  obtain ⟨x,hx⟩:=some_of_lt hlt;refine gO Tryz.func97 ?_;repeat' (first | with_reducible refine elemP_at (at_map hx) rfl ?_ | with_reducible refine cY ?_ | with_reducible refine cN ?_ | with_reducible refine caseB_split (fun _=>?_) (fun _=>?_) | refine gA Tryz.func97 ?_ | refine gB ?_ | refine gC ?_ | with_reducible rfl)
  all_goals try (have hno:l.all addrB=false:=all_no hx (by (simp_all [addrB] <;> omega)); simp [rootB,hno]; done)
  refine gO Tryz.func97 ?_;refine AWL.back (IH (i+1) ⟨by omega,all_next hall hx (by (simp_all [addrB] <;> omega))⟩ (by omega)) ?_;(conv=>whnf);repeat (first | exact trivial | (refine sI ?_; conv=>whnf))
 ·have hge:l.length≤i:=by simpa using h5
  rw [List.take_of_length_le hge] at hall;refine gO Tryz.func97 ?_;repeat' (first | with_reducible refine callP_eq (rsetOK_p a hf) ?_ | with_reducible refine callP1_eq (rsetOK_p a hf) ?_ | with_reducible refine cY ?_ | with_reducible refine cN ?_ | with_reducible refine caseB_split (fun _=>?_) (fun _=>?_) | refine gA Tryz.func97 ?_ | refine gB ?_ | refine gC ?_ | with_reducible rfl)
  all_goals try (simp_all [rootB]; done)
  all_goals
   rename_i e1 e2 e3 e4;have e2':a.type=6:=by simpa using e2
   have e3':a.name=[46]:=by simpa using e3
   by_cases hz:1≤l.length
   ·simp [rootB,e1,e2',e3',hall,hz];try (simp at e4; omega)
    try omega
   ·first
     |(simp [rootB,hz]; done)
     |(exfalso; simp at e4; omega)
def insA (out:List Text) (a:Text):List Text:=if a∈out then out else out.takeWhile (fun x=>decide (ordN x a<0))++a::out.dropWhile (fun x=>decide (ordN x a<0))
def SortedA (out:List Text):Prop:=out.Pairwise fun x y=>ordN x y<0
def apexesA (l:List Text):List Text:=l.foldl insA []
theorem take_while_at {p:Text→Bool} {out:List Text} {k:Nat} (hk:k≤out.length) (hlow:∀ m x,m<k→out[m]? = some x→p x=true) (hend:∀ x,out[k]? = some x→p x=false):out.takeWhile p=out.take k∧out.dropWhile p=out.drop k:=by
 induction out generalizing k with
 |nil=>simp
 |cons y out ih =>
  cases k with
  |zero=>have:=hend y rfl; simp [this]
  |succ k =>
   have h0:=hlow 0 y (by omega) rfl;have:=ih (k:=k) (by simpa using hk) (fun m x hm hx=>hlow (m+1) x (by omega) (by simpa using hx)) (fun x hx=>hend x (by simpa using hx));simp [h0,this]
theorem sorted_at {out:List Text} (h:SortedA out) {i j:Nat} {x y:Text} (hij:i<j) (hx:out[i]? = some x) (hy:out[j]? = some y):ordN x y<0:=by
 obtain ⟨p1,e1⟩:=List.getElem?_eq_some_iff.1 hx;obtain ⟨p2,e2⟩:=List.getElem?_eq_some_iff.1 hy;have:=List.pairwise_iff_getElem.1 h i j p1 p2 hij
 rwa [e1,e2] at this
theorem ins_split {out:List Text} {a:Text} {k:Nat} (h:SortedA out) (hk:k≤out.length) (hlow:∀ m x,m<k→out[m]? = some x→ordN x a<0) (hend:∀ x,out[k]? = some x→¬ ordN x a<0) (hne:out[k]? ≠ some a):a ∉ out∧insA out a=out.take k++a::out.drop k:=by
 have hno:a ∉ out:=fun hm=>by
  obtain ⟨m,hm⟩:=List.getElem?_of_mem hm;rcases Nat.lt_trichotomy m k with hmk | rfl | hmk
  ·have:=hlow m a hmk hm;rw [ordN_self] at this;omega
  ·exact hne hm
  ·obtain ⟨x,hx⟩:=some_of_lt (l:=out) (k:=k) (by have:=lt_of_getElem? hm; omega);exact hend x hx (sorted_at h hmk hx hm)
 refine ⟨hno,?_⟩;obtain ⟨h1,h2⟩:=take_while_at (p:=fun x=>decide (ordN x a<0)) hk (fun m x hm hx=>by simpa using hlow m x hm hx) (fun x hx=>by simpa using hend x hx);rw [insA,if_neg hno,h1,h2]
theorem ins_sorted {out:List Text} (a:Text) (h:SortedA out):SortedA (insA out a):=by
 unfold insA;split
 ·exact h
 ·rename_i hno;have hs:=h;unfold SortedA at h ⊢;rw [← List.takeWhile_append_dropWhile (p:=fun x=>decide (ordN x a<0)) (l:=out)] at h;rw [List.pairwise_append] at h;obtain ⟨h1,h2,h3⟩:=h;rw [List.pairwise_append];have hlow:∀ x∈out.takeWhile (fun x=>decide (ordN x a<0)),ordN x a<0:=fun x hx=>by simpa using takeWhile_ok _ _ x hx
  have hup:∀ x∈out.dropWhile (fun x=>decide (ordN x a<0)),ordN a x<0:=fun x hx=>by
   cases hd:out.dropWhile (fun x=>decide (ordN x a<0)) with
   |nil=>rw [hd] at hx; simp at hx
   |cons y r =>
    rw [hd] at hx h2;have hy:¬ ordN y a<0:=by
     have:=List.head?_dropWhile_not (p:=fun x=>decide (ordN x a<0)) out;rw [hd] at this
     simpa using this
    have hya:ordN a y<0:=by
     have e:=ordN_neg a y;rcases Int.lt_trichotomy (ordN a y) 0 with q | q | q
     ·exact q
     ·have:=ordN_zero q;subst this;have hmem:a∈out:=by
       rw [← List.takeWhile_append_dropWhile (p:=fun x=>decide (ordN x a<0)) (l:=out),hd];simp
      exact absurd hmem hno
     ·omega
    rcases List.mem_cons.1 hx with rfl | hx
    ·exact hya
    ·exact ordN_trans hya ((List.pairwise_cons.1 h2).1 x hx)
  refine ⟨h1,List.pairwise_cons.2 ⟨hup,h2⟩,fun x hx y hy=>?_⟩;rcases List.mem_cons.1 hy with rfl | hy
  ·exact hlow x hx
  ·exact h3 x hx y hy
theorem ins_mem {out:List Text} {a x:Text}:x∈insA out a↔x∈out∨x=a:=by
 unfold insA;split
 ·rename_i h;constructor
  ·exact .inl
  ·rintro (h1 | rfl)
   ·exact h1
   ·exact h
 ·have e:=List.takeWhile_append_dropWhile (p:=fun x=>decide (ordN x a<0)) (l:=out);constructor
  ·intro hx;rw [← e];simp only [List.mem_append,List.mem_cons] at hx ⊢;rcases hx with h | rfl | h
   ·exact .inl (.inl h)
   ·exact .inr rfl
   ·exact .inl (.inr h)
  ·intro hx;rw [← e] at hx;simp only [List.mem_append,List.mem_cons] at hx ⊢;rcases hx with (h | h) | rfl
   ·exact .inl h
   ·exact .inr (.inr h)
   ·exact .inr (.inl rfl)
theorem apexes_ok (l:List Text):SortedA (apexesA l)∧∀ x,x∈apexesA l↔x∈l:=by
 have main:∀ (l out:List Text),SortedA out→SortedA (l.foldl insA out)∧∀ x,x∈l.foldl insA out↔x∈out∨x∈l:=by
  intro l
  induction l with
  |nil=>intro out h; exact ⟨h,by simp⟩
  |cons a l ih =>
   intro out h;have:=ih (insA out a) (ins_sorted a h);refine ⟨this.1,fun x=>?_⟩;rw [List.foldl_cons,this.2,ins_mem];simp [or_assoc]
 have:=main l [] List.Pairwise.nil;exact ⟨this.1,fun x=>by rw [apexesA,this.2]; simp⟩
theorem apexes_next {l:List Text} {k:Nat} {x:Text} (h:l[k]? = some x):apexesA (l.take (k+1))=insA (apexesA (l.take k)) x:=by
 rw [take_next h,apexesA,List.foldl_append];rfl
theorem apexes_len (l:List Text):(apexesA l).length=(nub [] l).length:=by
 obtain ⟨h1,h2⟩:=apexes_ok l;refine len_same ?_ (nub_nodup List.nodup_nil) fun x=>by rw [h2,nub_mem]; simp
 rw [List.nodup_iff_pairwise_ne];refine h1.imp fun {a b} hab e=>?_;subst e;rw [ordN_self] at hab;omega
theorem shift_set {A:List Text} {n:Nat} {y a:Text} (hn:n≤A.length):((A.take n++y::A.drop n).map DV.str).set ((n:Int)).toNat (.str a)=(A.take n++a::A.drop n).map DV.str:=by
 rw [Int.toNat_natCast,← List.map_set]
 congr 1
 rw [List.set_append_right _ _ (by simp; omega)];simp [Nat.min_eq_left hn]
theorem shift_one {A:List Text} {n:Nat} {y z:Text} (hz:A[n - 1]? = some z) (h0:0<n):((A.take n++y::A.drop n).map DV.str).set ((n:Int)).toNat (.str z)=(A.take (n - 1)++z::A.drop (n - 1)).map DV.str:=by
 have hl:=lt_of_getElem? hz;rw [shift_set (by omega)]
 congr 1
 obtain ⟨m,rfl⟩:∃ m,n=m+1:=⟨n - 1,by omega⟩;simp only [Nat.add_sub_cancel] at hz hl ⊢;rw [take_next hz];obtain ⟨p,e⟩:=List.getElem?_eq_some_iff.1 hz;rw [List.drop_eq_getElem_cons p,e];simp
theorem rapexes_p (l:List Copy) (hl:l.length≤1000000) (hn:∀ c∈l,c.zone.apex.length≤1000):PCalls E 103 [.sl (l.map Copy.enc)] (· = .sl ((apexesA (l.map (·.zone.apex))).map .str)):=by
 generalize hT:l.map (·.zone.apex)=T;have hTl:T.length=l.length:=by rw [← hT]; simp
 have hTn:∀ x∈T,x.length≤1000:=fun x hx=>by
  rw [← hT] at hx;obtain ⟨c,hc,rfl⟩:=List.mem_map.1 hx;exact hn c hc
 have hcnt:∀ k,(apexesA (T.take k)).length≤l.length:=fun k=>by
  rw [apexes_len];have:=nub_len_le (l:=T.take k) (acc:=[]);simp at this;omega
 refine eP Tryz.func103 ?_;refine AWL.adopt 3 (9,1) (by decide) rfl ?_;refine AWL.loop (κ:=Nat) (rg 3 68) (fun k=>[(4,.d (.int .i64 k)),(3,.own 0 1)]) (fun k=>[(0,.arr 1 (9,1) ((apexesA (T.take k)).map .str))]) (fun k=>k≤l.length) (fun k=>l.length - k) 0 (Nat.zero_le _) ?_ ?_
 ·(conv=>whnf);repeat (first | exact trivial | (refine sI ?_; conv=>whnf))
  refine And.intro rfl ?_;(conv=>whnf);repeat (first | exact trivial | (refine sI ?_; conv=>whnf))
 intro i hi IH;obtain ⟨hS,hM⟩:=apexes_ok (T.take i);have hC:=hcnt i;have hnext:∀ {a:Text},T[i]? = some a→apexesA (T.take (i+1))=insA (apexesA (T.take i)) a:=fun h=>apexes_next h;have hlen1:∀ x∈apexesA (T.take i),x.length≤1000:=fun x hx=>hTn x (List.mem_of_mem_take ((hM x).1 hx));generalize hA:apexesA (T.take i)=A at hS hM hC hnext hlen1;refine AWL.head E_ok Tryz.func103 2000 ?_;(conv=>whnf);refine caseB_split (fun h5=>?_) (fun h5=>?_)
 ·have hlt:i<l.length:=by simpa using h5
  obtain ⟨c,hc⟩:=some_of_lt hlt;have hTi:T[i]? = some c.zone.apex:=by rw [← hT]; simp [hc]
  have hcl:=hn c (List.mem_of_getElem? hc);replace hnext:=hnext hTi;refine gO Tryz.func103 ?_;refine elemP_at (e:=c.enc) (at_map hc) rfl ?_;refine gO Tryz.func103 ?_;refine AWL.loop (κ:=Nat) ([6]++rg 20 15) (fun k=>[(6,.d (.int .i64 k))]) (fun _=>[]) (fun k=>k≤A.length∧∀ m x,m<k→A[m]? = some x→ordN x c.zone.apex<0) (fun k=>A.length - k) 0 ⟨Nat.zero_le _,fun m x h=>by omega⟩ ?_ ?_
  ·(conv=>whnf);repeat (first | exact trivial | (refine sI ?_; conv=>whnf))
  rintro k ⟨hk,hlow⟩ IH2;refine AWL.head E_ok Tryz.func103 2000 ?_;(conv=>whnf);refine caseB_split (fun h6=>?_) (fun h6=>?_)
  ·have hlt2:k<A.length:=by simpa using h6
   obtain ⟨y,hy⟩:=some_of_lt hlt2;refine gO Tryz.func103 ?_;refine need_intro ⟨by omega,by simp; omega⟩ ?_;refine gO Tryz.func103 ?_;refine elemP_at (e := .str y) (at_map hy) rfl ?_;refine gO Tryz.func103 ?_
   with_reducible refine callP_eq (rorder_p y c.zone.apex (hlen1 y (List.mem_of_getElem? hy)) hcl) ?_
   refine gO Tryz.func103 ?_;refine caseB_split (fun h7=>?_) (fun h7=>?_)
   ·refine gO Tryz.func103 ?_;refine AWL.back (IH2 (k+1) ⟨by omega,fun m x hm hx=>?_⟩ (by omega)) ?_
    ·by_cases hmk:m=k
     ·subst hmk; rw [hy] at hx; cases hx; simpa using h7
     ·exact hlow m x (by omega) hx
    ·(conv=>whnf);repeat (first | exact trivial | (refine sI ?_; conv=>whnf))
   ·have hend:∀ x,A[k]? = some x→¬ ordN x c.zone.apex<0:=fun x hx=>by rw [hy] at hx; cases hx; simpa using h7
    refine gO Tryz.func103 ?_;refine caseB_yes (by simpa using hlt2) ?_;refine gO Tryz.func103 ?_;refine need_intro ⟨by omega,by simp; omega⟩ ?_;refine gO Tryz.func103 ?_;refine elemP_at (e := .str y) (at_map hy) rfl ?_;refine gO Tryz.func103 ?_;refine caseB_split (fun h8=>?_) (fun h8=>?_)
    ·have hya:y=c.zone.apex:=by simpa using h8
     refine gO Tryz.func103 ?_;refine AWL.back (IH (i+1) (by omega) (by omega)) ?_;rw [hnext];have hin:insA A c.zone.apex=A:=by rw [insA,if_pos (by rw [← hya]; exact List.mem_of_getElem? hy)]
     rw [hin];(conv=>whnf);repeat (first | exact trivial | (refine sI ?_; conv=>whnf))
    ·have hya:A[k]? ≠ some c.zone.apex:=fun e=>by rw [hy] at e; cases e; simp at h8
     obtain ⟨hno,hins⟩:=ins_split hS hk hlow hend hya;rw [hins] at hnext;refine gO Tryz.func103 ?_;refine need_intro ⟨by simp; omega,by simp [DV.cells]⟩ ?_;refine gO Tryz.func103 ?_;refine AWL.loop (κ:=Nat × Text) [7,54,55,56,57,58,59,60,61,62,63,64,65,66] (fun x=>[(7,.d (.int .i64 x.1)),(3,.own 0 2)]) (fun x=>[(0,.arr 2 (9,1) ((A.take x.1++x.2::A.drop x.1).map .str))]) (fun x=>k≤x.1∧x.1≤A.length) (fun x=>x.1 - k) (A.length,c.zone.apex) ⟨hk,Nat.le_refl _⟩ ?_ ?_
     ·(conv=>whnf);repeat (first | exact trivial | (refine sI ?_; conv=>whnf))
      refine And.intro (by simp) ?_;(conv=>whnf);repeat (first | exact trivial | (refine sI ?_; conv=>whnf))
      refine And.intro (congrArg (DV.int .i64) ((wrap64 (by simp <;> omega) (by simp <;> omega)).trans (by simp only [List.length_append,List.length_map,List.length_singleton]; omega))) ?_;(conv=>whnf);repeat (first | exact trivial | (refine sI ?_; conv=>whnf))
     rintro ⟨n,y⟩ ⟨hn1,hn2⟩ IH3;simp only at hn1 hn2;refine AWL.head E_ok Tryz.func103 2000 ?_;(conv=>whnf);refine caseB_split (fun h8=>?_) (fun h8=>?_)
     ·have hnk:k<n:=by simpa using h8
      obtain ⟨z,hz⟩:=some_of_lt (l:=A) (k:=n - 1) (by omega);have hwr:IntKind.i64.wrap ((n:Int) - 1)=((n - 1:Nat):Int):=by rw [wrap64 (by omega) (by omega)]; omega
      refine gO Tryz.func103 ?_;refine need_intro ⟨by rw [hwr]; omega,by rw [hwr]; simp; omega⟩ ?_;refine gO Tryz.func103 ?_;refine elemP_at (e := .str z) ⟨by omega,by rw [hwr,Int.toNat_natCast,Int.toNat_natCast,List.getElem?_map,List.getElem?_append_left (by simp; omega),List.getElem?_take,if_pos (by omega),hz]; rfl⟩ rfl ?_;refine gO Tryz.func103 ?_;refine need_intro ⟨by omega,by simp; omega⟩ ?_;refine gO Tryz.func103 ?_;refine elemP_at (e := .str y) ⟨by omega,by simp [List.getElem?_append_right,List.length_take,Nat.min_eq_left hn2]⟩ rfl ?_;refine gO Tryz.func103 ?_;refine gO Tryz.func103 ?_;refine AWL.back (IH3 (n - 1,z) ⟨by simp only; omega,by simp only; omega⟩ (by simp only; omega)) ?_;(conv=>whnf);repeat (first | exact trivial | (refine sI ?_; conv=>whnf))
      refine And.intro (shift_one hz (by omega)) ?_;(conv=>whnf);repeat (first | exact trivial | (refine sI ?_; conv=>whnf))
     ·have hnk : n = k := by have : n ≤ k := by simpa using h8
                             omega
      subst hnk;refine gO Tryz.func103 ?_;refine need_intro ⟨by omega,by simp; omega⟩ ?_;refine gO Tryz.func103 ?_;refine elemP_at (e := .str y) ⟨by omega,by simp [List.getElem?_append_right,List.length_take,Nat.min_eq_left hn2]⟩ rfl ?_;refine gO Tryz.func103 ?_;refine gO Tryz.func103 ?_;refine AWL.back (IH (i+1) (by omega) (by omega)) ?_;rw [hnext];(conv=>whnf);repeat (first | exact trivial | (refine sI ?_; conv=>whnf))
      refine And.intro (shift_set hn2) ?_;(conv=>whnf);repeat (first | exact trivial | (refine sI ?_; conv=>whnf))
  ·have hge2:A.length≤k:=by simpa using h6
   have hnone:A[k]? = none:=List.getElem?_eq_none hge2;obtain ⟨hno,hins⟩:=ins_split hS hk hlow (fun x hx=>by rw [hnone] at hx; cases hx) (by rw [hnone]; simp);rw [hins] at hnext;refine gO Tryz.func103 ?_;refine caseB_false ?_;refine gO Tryz.func103 ?_;refine caseB_no (by simpa using hge2) ?_;refine gO Tryz.func103 ?_;refine caseB_false ?_;refine gO Tryz.func103 ?_;refine need_intro ⟨by simp; omega,by simp [DV.cells]⟩ ?_;refine gO Tryz.func103 ?_;refine AWL.loop (κ:=Nat × Text) [7,54,55,56,57,58,59,60,61,62,63,64,65,66] (fun x=>[(7,.d (.int .i64 x.1)),(3,.own 0 2)]) (fun x=>[(0,.arr 2 (9,1) ((A.take x.1++x.2::A.drop x.1).map .str))]) (fun x=>k≤x.1∧x.1≤A.length) (fun x=>x.1 - k) (A.length,c.zone.apex) ⟨hk,Nat.le_refl _⟩ ?_ ?_
   ·(conv=>whnf);repeat (first | exact trivial | (refine sI ?_; conv=>whnf))
    refine And.intro (by simp) ?_;(conv=>whnf);repeat (first | exact trivial | (refine sI ?_; conv=>whnf))
    refine And.intro (congrArg (DV.int .i64) ((wrap64 (by simp <;> omega) (by simp <;> omega)).trans (by simp only [List.length_append,List.length_map,List.length_singleton]; omega))) ?_;(conv=>whnf);repeat (first | exact trivial | (refine sI ?_; conv=>whnf))
   rintro ⟨n,y⟩ ⟨hn1,hn2⟩ IH3;simp only at hn1 hn2;refine AWL.head E_ok Tryz.func103 2000 ?_;(conv=>whnf);refine caseB_split (fun h8=>?_) (fun h8=>?_)
   ·have hnk:k<n:=by simpa using h8
    obtain ⟨z,hz⟩:=some_of_lt (l:=A) (k:=n - 1) (by omega);have hwr:IntKind.i64.wrap ((n:Int) - 1)=((n - 1:Nat):Int):=by rw [wrap64 (by omega) (by omega)]; omega
    refine gO Tryz.func103 ?_;refine need_intro ⟨by rw [hwr]; omega,by rw [hwr]; simp; omega⟩ ?_;refine gO Tryz.func103 ?_;refine elemP_at (e := .str z) ⟨by omega,by rw [hwr,Int.toNat_natCast,Int.toNat_natCast,List.getElem?_map,List.getElem?_append_left (by simp; omega),List.getElem?_take,if_pos (by omega),hz]; rfl⟩ rfl ?_;refine gO Tryz.func103 ?_;refine need_intro ⟨by omega,by simp; omega⟩ ?_;refine gO Tryz.func103 ?_;refine elemP_at (e := .str y) ⟨by omega,by simp [List.getElem?_append_right,List.length_take,Nat.min_eq_left hn2]⟩ rfl ?_;refine gO Tryz.func103 ?_;refine gO Tryz.func103 ?_;refine AWL.back (IH3 (n - 1,z) ⟨by simp only; omega,by simp only; omega⟩ (by simp only; omega)) ?_;(conv=>whnf);repeat (first | exact trivial | (refine sI ?_; conv=>whnf))
    refine And.intro (shift_one hz (by omega)) ?_;(conv=>whnf);repeat (first | exact trivial | (refine sI ?_; conv=>whnf))
   ·have hnk : n = k := by have : n ≤ k := by simpa using h8
                           omega
    subst hnk;refine gO Tryz.func103 ?_;refine need_intro ⟨by omega,by simp; omega⟩ ?_;refine gO Tryz.func103 ?_;refine elemP_at (e := .str y) ⟨by omega,by simp [List.getElem?_append_right,List.length_take,Nat.min_eq_left hn2]⟩ rfl ?_;refine gO Tryz.func103 ?_;refine gO Tryz.func103 ?_;refine AWL.back (IH (i+1) (by omega) (by omega)) ?_;rw [hnext];(conv=>whnf);repeat (first | exact trivial | (refine sI ?_; conv=>whnf))
    refine And.intro (shift_set hn2) ?_;(conv=>whnf);repeat (first | exact trivial | (refine sI ?_; conv=>whnf))
 ·have hge:l.length≤i:=by simpa using h5
  rw [List.take_of_length_le (by omega)] at hA;refine gO Tryz.func103 ?_;rw [hA]
end Go.Proofs.YtajnanldmhpeaaaGreatDoor.P
end
section
namespace Go.Proofs.YtajnanldmhpeaaaGreatDoor.P
open Go Go.Eng
set_option maxRecDepth 100000
set_option maxHeartbeats 4000000
theorem zoneR_valid {z:Zone} (h:zoneR z=true):Nm.valid z.apex=true:=by
 simp only [zoneR,oneB,Bool.and_eq_true] at h;simp_all
theorem not_apart {l:List Copy} {i k:Nat} {c d:Copy} (hc:l[i]? = some c) (hd:l[k]? = some d) (hk:k<i) (h:d.host=c.host∧d.zone.apex=c.zone.apex∧d.frm<c.upto∧c.frm<d.upto):¬ l.Pairwise Apart2:=fun hp=>by
 obtain ⟨p1,e1⟩:=List.getElem?_eq_some_iff.1 hc;obtain ⟨p2,e2⟩:=List.getElem?_eq_some_iff.1 hd;have:=List.pairwise_iff_getElem.1 hp k i p2 p1 hk;rw [e1,e2] at this;exact this (by simp [Copy.spot,h.1,h.2.1]) h.2.2
theorem pairwise_next {α:Type} {R:α→α→Prop} {l:List α} {i:Nat} {x:α} (h:(l.take i).Pairwise R) (hx:l[i]? = some x) (hn:∀ m y,m<i→l[m]? = some y→R y x):(l.take (i+1)).Pairwise R:=by
 rw [take_next hx,List.pairwise_append];refine ⟨h,by simp,fun a ha b hb=>?_⟩;simp at hb;subst hb;obtain ⟨m,hm⟩:=List.getElem?_of_mem ha;rw [List.getElem?_take] at hm;split at hm
 ·rename_i hmi; exact hn m a hmi hm
 ·cases hm
theorem rhvalid_p (h:History) (hf:h.Fits) (hk1:h.copies.length≤1000000) (hk2:h.hints.length≤1000000):PCalls E 49 [h.enc] (· = .bool (histB h)):=by
 obtain ⟨hosts,copies,anchor,hints,drift,fin⟩:=h;obtain ⟨hf1,hf2,hf3,hf4⟩:=hf;simp only at hf1 hf2 hf3 hf4 hk1 hk2;show PCalls E _ [DV.agg [.sl (hosts.map Host.enc),.sl (copies.map Copy.enc),.str anchor.name,.int .i64 anchor.type,.int .i64 anchor.life,.sl (anchor.data.map Datum.enc),.sl (hints.map (.int .i64)),.int .i64 drift,.int .i64 fin]] _;refine eP Tryz.func49 ?_;repeat' (first | with_reducible refine callP_eq (rhosts_p hosts hf1) ?_ | with_reducible refine callP1_eq (rhosts_p hosts hf1) ?_ | with_reducible refine callP_eq (rroots_p anchor hints hf2 hk2) ?_ | with_reducible refine callP1_eq (rroots_p anchor hints hf2 hk2) ?_ | with_reducible refine cY ?_ | with_reducible refine cN ?_ | with_reducible refine caseB_split (fun _=>?_) (fun _=>?_) | refine gA Tryz.func49 ?_ | refine gB ?_ | refine gC ?_ | with_reducible rfl)
 all_goals try (congr 1; simp_all [histB]; done)
 all_goals try (congr 1; simp_all [histB]; omega; done)
 rename_i h1 h2 h3 h4 h5 h6 h7;have hsc:1≤fin∧fin≤10000000∧0≤drift∧drift≤1000∧copies.length≤4000:=by simp at h3 h4 h5 h6 h7; omega
 have hw:(hostsB hosts&&rootB anchor hints)=true:=by simp_all
 have hval:histB ⟨hosts,copies,anchor,hints,drift,fin⟩=(copies.all (copyOK hosts.length fin)&&decide (copies.Pairwise Apart2)&&decide (apexN copies≤500)):=by
  simp only [histB,hw];simp [hsc.1,hsc.2.1,hsc.2.2.1,hsc.2.2.2.1,hsc.2.2.2.2,Bool.and_assoc]
 rw [hval];clear hval h1 h2 h3 h4 h5 h6 h7 hw;refine gO Tryz.func49 ?_;refine AWL.loop (κ:=Nat) (rg 2 5++rg 45 86) (fun k=>[(3,.d (.int .i64 k)),(2,.d (.bool false))]) (fun _=>[]) (fun k=>k≤copies.length∧(copies.take k).all (copyOK hosts.length fin)=true∧(copies.take k).Pairwise Apart2) (fun k=>copies.length - k) 0 ⟨Nat.zero_le _,rfl,by simp⟩ ?_ ?_
 ·(conv=>whnf);repeat (first | exact trivial | (refine sI ?_; conv=>whnf))
 rintro i ⟨hi,hall,hpw⟩ IH;refine AWL.head E_ok Tryz.func49 2000 ?_;(conv=>whnf);refine caseB_split (fun h5=>?_) (fun h5=>?_)
 ·have hlt:i<copies.length:=by simpa using h5
  obtain ⟨c,hc⟩:=some_of_lt hlt;have hcf:=hf4 c (List.mem_of_getElem? hc);refine gO Tryz.func49 ?_;refine elemP_at (e:=c.enc) (at_map hc) rfl ?_;refine gO Tryz.func49 ?_;repeat' (first | with_reducible refine callP_eq (rzone_p c.zone hcf) ?_ | with_reducible refine callP1_eq (rzone_p c.zone hcf) ?_ | with_reducible refine cY ?_ | with_reducible refine cN ?_ | with_reducible refine caseB_split (fun _=>?_) (fun _=>?_) | refine gA Tryz.func49 ?_ | refine gB ?_ | refine gC ?_ | with_reducible rfl)
  all_goals try (have hno:copyOK hosts.length fin c=false:=by (simp_all [copyOK] <;> omega))
  all_goals try (rw [all_no hc hno]; simp; done)
  rename_i h1 h2 h3 h4 h5 h6;have hok:copyOK hosts.length fin c=true:=by simp_all [copyOK]
  refine gO Tryz.func49 ?_;refine AWL.loop (κ:=Nat) ([2,5,6]++rg 93 38) (fun k=>[(5,.d (.int .i64 k)),(2,.d (.bool false))]) (fun _=>[]) (fun k=>k≤i∧∀ m d,m<k→copies[m]? = some d→Apart2 d c) (fun k=>i - k) 0 ⟨Nat.zero_le _,fun m y h=>by omega⟩ ?_ ?_
  ·(conv=>whnf);repeat (first | exact trivial | (refine sI ?_; conv=>whnf))
  rintro k ⟨hk,hne⟩ IH2;refine AWL.head E_ok Tryz.func49 2000 ?_;(conv=>whnf);refine caseB_split (fun h6=>?_) (fun h6=>?_)
  ·have hlt2:k<i:=by simpa using h6
   obtain ⟨d,hd⟩:=some_of_lt (l:=copies) (k:=k) (by omega);refine gO Tryz.func49 ?_;refine elemP_at (e:=d.enc) (at_map hd) rfl ?_;refine gO Tryz.func49 ?_;repeat' (first | with_reducible refine cY ?_ | with_reducible refine cN ?_ | with_reducible refine caseB_split (fun _=>?_) (fun _=>?_) | refine gA Tryz.func49 ?_ | refine gB ?_ | refine gC ?_ | with_reducible rfl)
   all_goals try
    (have hna := not_apart hc hd hlt2 (by (simp_all <;> omega))
     simp [hna]; done)
   all_goals
    have hap:Apart2 d c:=fun e=>by
     simp only [Copy.spot,Prod.mk.injEq] at e;simp_all;try (intros; omega)
    refine gO Tryz.func49 ?_;refine AWL.back (IH2 (k+1) ⟨by omega,fun m z hm hz=>?_⟩ (by omega)) ?_
    ·by_cases hmk:m=k
     ·subst hmk; rw [hd] at hz; cases hz; exact hap
     ·exact hne m z (by omega) hz
    ·(conv=>whnf);repeat (first | exact trivial | (refine sI ?_; conv=>whnf))
  ·have hge2:i≤k:=by simpa using h6
   refine gO Tryz.func49 ?_;refine AWL.back (IH (i+1) ⟨by omega,all_next hall hc hok,pairwise_next hpw hc (fun m z hm hz=>hne m z (by omega) hz)⟩ (by omega)) ?_;(conv=>whnf);repeat (first | exact trivial | (refine sI ?_; conv=>whnf))
 ·have hge:copies.length≤i:=by simpa using h5
  rw [List.take_of_length_le hge] at hall hpw;have hnames:∀ c∈copies,c.zone.apex.length≤1000:=fun c hc=>by
   have h1:=List.all_eq_true.1 hall c hc;simp only [copyOK,Bool.and_eq_true] at h1;have:=valid_len (zoneR_valid h1.2);omega
  refine gO Tryz.func49 ?_
  with_reducible refine callP_eq (rapexes_p copies hk1 hnames) ?_
  refine gO Tryz.func49 ?_;simp only [hall,hpw,decide_true,Bool.true_and,apexN,apexes_len,List.length_map]
  congr 2
  simp;omega
end Go.Proofs.YtajnanldmhpeaaaGreatDoor.P
end
