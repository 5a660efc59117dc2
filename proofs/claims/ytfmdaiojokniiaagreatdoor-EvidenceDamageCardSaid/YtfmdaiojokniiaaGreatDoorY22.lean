/- Several texts of mine, one behind the other. Conditions: as each says. -/
import Derived.Test.YtfmdaiojokniiaaGreatDoorY21
set_option linter.unusedVariables false
set_option linter.unusedSimpArgs false
section
namespace Go.Proofs.YtfmdaiojokniiaaGreatDoor.P
open Go Go.ax
set_option maxRecDepth 100000
set_option maxHeartbeats 4000000
def a7.spot (c:a7):cS:=(c.host,c.az.aj)
def a7.span (c:a7):Span:=⟨c.cj,c.upto⟩
def jy (aA:Nat) (fin:Int) (c:a7):Bool:=decide (0≤c.host)&&decide (c.host<aA)&&decide (0≤c.cj)&&decide (c.cj<c.upto)&&decide (c.upto≤fin)&&dI c.az
def mo (d c:a7):Prop:=d.spot=c.spot→¬ (d.cj<c.upto∧c.cj<d.upto)
instance (d c : a7) : Decidable (mo d c) := by unfold mo; infer_instance
def su (l:List a7):Nat:=(dK [] (l.map (·.az.aj))).length
def gd (h:ca):Bool:=decide (1≤h.fin)&&decide (h.fin≤10000000)&&decide (0≤h.bT)&&decide (h.bT≤1000)&&decide (h.aI.length≤4000)&&(fu h.aA&&iY h.anchor h.hints) &&
 h.aI.all (jy h.aA.length h.fin)&&decide (h.aI.Pairwise mo)&&decide (su h.aI≤500)
structure ca.Fits (h:ca):Prop where
 aA:∀ x∈h.aA,x.name.length≤maxLen
 anchor:h.anchor.Fits
 hints:h.hints.length≤maxLen
 jw:∀ c∈h.aI,c.az.Fits
structure RD where
 p:cS
 l:List Span
 blk:Nat
 cap:Nat
def RD.slice (d:RD):Value := .slice (some ⟨d.blk,0,none⟩) d.l.length d.cap
def RD.dw (d:RD):DV × DV:=(cS.en d.p,.raw d.slice)
def RD.ghost (d:RD):bj := .row ⟨d.blk,d.cap,(169,2),d.l.map Span.enc⟩
structure kG (l:List a7) (ds:List RD):Prop where
 nodup:(ds.map (·.p)).Nodup
 each:∀ d∈ds,d.l=(l.filter (fun c=>decide (c.spot=d.p))).map a7.span∧d.l≠[]
 all:∀ c∈l,∃ d∈ds,d.p=c.spot
theorem kG.nil:kG [] []:=⟨by simp,fun d hd=>by simp at hd,fun c hc=>by simp at hc⟩
def Clear (l:List Span):Prop:=l.Pairwise fun a b=>¬ (a.cj<b.upto∧b.cj<a.upto)
theorem JI {l m:List Span} (h:l.Perm m):Clear l↔Clear m:=h.pairwise_iff fun {x y} h1 h2=>h1 ⟨h2.2,h2.1⟩
theorem RN {l:List a7} {ds:List RD} (h:kG l ds):l.Pairwise mo↔∀ d∈ds,Clear d.l:=by
 have each:∀ d∈ds,(Clear d.l↔l.Pairwise (fun a b=>a.spot=d.p→b.spot=d.p→¬ (a.cj<b.upto∧b.cj<a.upto))):=fun d hd=>by
  rw [(h.each d hd).1,Clear,List.pairwise_map,List.pairwise_filter];simp only [decide_eq_true_eq];rfl
 constructor
 ·intro hp d hd;rw [each d hd];exact hp.imp fun {a b} tq h1 h2=>tq (h1.trans h2.symm)
 ·intro hc;rw [List.pairwise_iff_getElem];intro i j hi hj dm hs;obtain ⟨d,hd,e⟩:=h.all l[i] (List.getElem_mem hi);have:=(each d hd).1 (hc d hd);rw [List.pairwise_iff_getElem] at this;exact this i j hi hj dm e.symm (hs.symm.trans e.symm)
theorem RO {l:List Span} (hw:∀ a∈l,a.cj<a.upto) (h:∀ (m:Nat) (a b:Span),l[m]? = some a→l[m+1]? = some b→a.upto≤b.cj):Clear l:=by
 have main:∀ (n i:Nat) (a b:Span),l[i]? = some a→l[i+1+n]? = some b→a.upto≤b.cj:=by
  intro n
  induction n with
  |zero=>intro i a b ha hb; exact h i a b ha hb
  |succ n ih =>
   intro i a b ha hb;obtain ⟨c,hc⟩:∃ c,l[i+1+n]? = some c:=aD (by have:=aT hb; omega);have h1:=ih i a c ha hc;have h2:=h (i+1+n) c b hc hb;have h3:=hw c (List.mem_of_getElem? hc);omega
 unfold Clear;rw [List.pairwise_iff_getElem];intro i j hi hj dm h2;have:=main (j - i - 1) i l[i] l[j] (by simp) (by rw [show i+1+(j - i - 1)=j by omega]; simp);omega
theorem RP {l:List Span} (hw:∀ a∈l,a.cj<a.upto) (hs:l.Pairwise (fun a b=>a.cj≤b.cj)) {i:Nat} {a b:Span} (h0:0<i) (ha:l[i - 1]? = some a) (hb:l[i]? = some b) (h:b.cj<a.upto):¬ Clear l:=fun hc=>by
 obtain ⟨p1,e1⟩:=List.getElem?_eq_some_iff.1 ha;obtain ⟨p2,e2⟩:=List.getElem?_eq_some_iff.1 hb;have h1:=List.pairwise_iff_getElem.1 hc (i - 1) i p1 p2 (by omega);have h2:=List.pairwise_iff_getElem.1 hs (i - 1) i p1 p2 (by omega);have h3:=hw b (List.mem_of_getElem? hb);rw [e1,e2] at h1 h2;exact h1 ⟨by omega,h⟩
theorem RQ {l:List a7} {p:cS} {ds:List RD} (h:kG l ds) (hn:∀ d∈ds,d.p≠p):l.filter (fun c=>decide (c.spot=p))=[]:=by
 rw [List.filter_eq_nil_iff];intro c hc hp;obtain ⟨d,hd,e⟩:=h.all c hc;exact hn d hd (e.trans (by simpa using hp))
theorem kG.found {l:List a7} {p1 p2:List RD} {d:RD} {c:a7} (h:kG l (p1++d::p2)) (hp:d.p=c.spot) (blk cap:Nat):kG (l++[c]) (p1++⟨c.spot,d.l++[c.span],blk,cap⟩::p2):=by
 have dg:=h.nodup;simp only [List.map_append,List.map_cons] at dg;have aJ:∀ e,e∈p1∨e∈p2→e.p≠c.spot:=fun e he q=>by
  rw [List.nodup_append] at dg;obtain ⟨h1,h2,h3⟩:=dg;rw [List.nodup_cons] at h2;rcases he with he | he
  ·exact h3 e.p (List.mem_map_of_mem he) d.p (List.mem_cons_self ..) (q.trans hp.symm)
  ·exact h2.1 (List.mem_map.2 ⟨e,he,q.trans hp.symm⟩)
 have hold:∀ e,e∈p1∨e∈p2→e.l=((l++[c]).filter (fun c=>decide (c.spot=e.p))).map a7.span∧e.l≠[]:=fun e he=>by
  have h1:=h.each e (by rcases he with he | he <;> simp [he]);have h2:¬ c.spot=e.p:=fun q=>aJ e he q.symm;refine ⟨?_,h1.2⟩;rw [List.filter_append,List.filter_cons_of_neg (by simpa using h2),List.filter_nil,List.append_nil];exact h1.1
 refine ⟨?_,fun e he=>?_,fun x hx=>?_⟩
 ·simp only [List.map_append,List.map_cons];rw [← hp];exact dg
 ·rcases List.mem_append.1 he with he | he
  ·exact hold e (.inl he)
  ·rcases List.mem_cons.1 he with rfl | he
   ·have h1:=h.each d (by simp);refine ⟨?_,by simp⟩;show d.l++[c.span]=_;rw [List.filter_append,List.filter_cons_of_pos (by simp),List.filter_nil,List.map_append,h1.1,hp];rfl
   ·exact hold e (.inr he)
 ·rcases List.mem_append.1 hx with hx | hx
  ·obtain ⟨e,he,q⟩:=h.all x hx;rcases List.mem_append.1 he with he | he
   ·exact ⟨e,by simp [he],q⟩
   ·rcases List.mem_cons.1 he with rfl | he
    ·exact ⟨⟨c.spot,e.l++[c.span],blk,cap⟩,by simp,hp.symm.trans q⟩
    ·exact ⟨e,by simp [he],q⟩
  ·simp at hx;subst hx;exact ⟨⟨x.spot,d.l++[x.span],blk,cap⟩,by simp,rfl⟩
theorem kG.new {l:List a7} {ds:List RD} {c:a7} (h:kG l ds) (hn:∀ d∈ds,d.p≠c.spot) (blk cap:Nat):kG (l++[c]) (ds++[⟨c.spot,[c.span],blk,cap⟩]):=by
 refine ⟨?_,fun e he=>?_,fun x hx=>?_⟩
 ·rw [List.map_append,List.nodup_append];refine ⟨h.nodup,by simp,fun a ha b hb q=>?_⟩;simp at hb;subst hb; subst q;obtain ⟨d,hd,q⟩:=List.mem_map.1 ha;exact hn d hd q
 ·rcases List.mem_append.1 he with he | he
  ·have h1:=h.each e he;have h2:¬ c.spot=e.p:=fun q=>hn e he q.symm;refine ⟨?_,h1.2⟩;rw [List.filter_append,List.filter_cons_of_neg (by simpa using h2),List.filter_nil,List.append_nil];exact h1.1
  ·simp at he;subst he;refine ⟨?_,by simp⟩;show [c.span]=_;rw [List.filter_append,List.filter_cons_of_pos (by simp),List.filter_nil,RQ h hn];rfl
 ·rcases List.mem_append.1 hx with hx | hx
  ·obtain ⟨e,he,q⟩:=h.all x hx;exact ⟨e,by simp [he],q⟩
  ·simp at hx;subst hx;exact ⟨⟨x.spot,[x.span],blk,cap⟩,by simp,rfl⟩
theorem kG.len {l:List a7} {ds:List RD} (h:kG l ds) {d:RD} (hd:d∈ds):d.l.length≤l.length:=by
 rw [(h.each d hd).1,List.length_map];exact List.length_filter_le _ _
theorem RR {ds:List RD}:∀ {i:Nat} {d:RD},ds[i]? = some d→(ds.map (·.p)).Nodup→findD (cS.en d.p) (ds.map RD.dw)=some (.raw d.slice)∧ek (cS.en d.p) (ds.map RD.dw)=some i∧bM (cS.en d.p) (.raw d.slice) (ds.map RD.dw)=ds.map RD.dw:=by
 induction ds with
 |nil=>intro i d h; simp at h
 |cons e ds ih =>
  intro i d h hn;simp only [List.map_cons,List.nodup_cons] at hn;cases i with
  |zero =>
   simp at h;subst h;simp [findD,ek,bM,RD.dw,nX]
  |succ i =>
   have h':ds[i]? = some d:=by simpa using h
   have aJ:¬ d.p=e.p:=fun q=>hn.1 (List.mem_map.2 ⟨d,List.mem_of_getElem? h',q⟩);obtain ⟨h1,h2,h3⟩:=ih h' hn.2;simp only [List.map_cons,findD,ek,bM,RD.dw,nX,aJ,decide_false,Bool.false_eq_true,if_false];exact ⟨h1,by rw [h2]; rfl,by rw [h3]⟩
theorem JJ {p:cS} {v:DV}:∀ {ds:List RD},(∀ d∈ds,d.p≠p)→findD (cS.en p) (ds.map RD.dw)=none∧ek (cS.en p) (ds.map RD.dw)=none∧bM (cS.en p) v (ds.map RD.dw)=ds.map RD.dw++[(cS.en p,v)]
 | [],_=>by simp [findD,ek,bM]
 |e::ds,h=>by
  have aJ:¬ p=e.p:=fun q=>h e (List.mem_cons_self ..) q.symm;obtain ⟨h1,h2,h3⟩:=JJ (p:=p) (v:=v) (ds:=ds) (fun d hd=>h d (List.mem_cons_of_mem _ hd));simp only [List.map_cons,findD,ek,bM,RD.dw,nX,aJ,decide_false,Bool.false_eq_true,if_false];exact ⟨h1,by rw [h2]; rfl,by rw [h3]; rfl⟩
theorem JK {ds:List RD}:∀ p∈ds.map RD.dw,cW E.T (TK.struct [(0,3),(1,9)]) p.1:=fun p hp=>by
 obtain ⟨d,-,rfl⟩:=List.mem_map.1 hp;exact Af d.p
theorem JL (h:ca) (hf:h.Fits) (cZ:h.aI.length≤1000000):aq E 40 [h.enc] (· = .bool (gd h)):=by
 obtain ⟨aA,aI,anchor,hints,bT,fin⟩:=h;obtain ⟨fH,iZ,xw,xx⟩:=hf;simp only at fH iZ xw xx cZ;show aq E _ [DV.agg [.sl (aA.map Host.enc),.sl (aI.map a7.enc),.str anchor.name,.int .i64 anchor.type,.int .i64 anchor.cD,.sl (anchor.data.map Datum.enc),.sl (hints.map (.int .i64)),.int .i64 bT,.int .i64 fin]] _;refine eP Tryz.func40 ?_;repeat' (first | with_reducible refine ao (Jt aA anchor hints fH iZ xw) ?_ | with_reducible refine au (Jt aA anchor hints fH iZ xw) ?_ | with_reducible refine cY ?_ | with_reducible refine cN ?_ | with_reducible refine ah (fun _=>?_) (fun _=>?_) | refine gA Tryz.func40 ?_ | refine gB ?_ | with_reducible rfl)
 all_goals try (congr 1; simp_all [gd]; done)
 all_goals try (congr 1; simp_all [gd]; omega; done)
 ·rename_i h6;have hw:(fu aA&&iY anchor hints)=false:=by
   cases hq:(fu aA&&iY anchor hints)
   ·rfl
   ·rw [hq] at h6; cases h6
  simp only [gd,hw];simp
 rename_i h1 h2 h3 h4 h5 h6;have hw:(fu aA&&iY anchor hints)=true:=by
  cases hq:(fu aA&&iY anchor hints)
  ·rw [hq] at h6; cases h6
  ·rfl
 have eR:1≤fin∧fin≤10000000∧0≤bT∧bT≤1000∧aI.length≤4000:=by simp at h1 h2 h3 h4 h5; omega
 have bD:gd ⟨aA,aI,anchor,hints,bT,fin⟩=(aI.all (jy aA.length fin)&&decide (aI.Pairwise mo)&&decide (su aI≤500)):=by
  simp only [gd,hw];simp [eR.1,eR.2.1,eR.2.2.1,eR.2.2.2.1,eR.2.2.2.2,Bool.and_assoc]
 rw [bD];clear bD h1 h2 h3 h4 h5 h6 hw;refine gO Tryz.func40 ?_;refine gO Tryz.func40 ?_;refine I.C8 (κ:=Nat × List RD) [2,5,6,47,48,49,50,51,52,53,54,55,56,57,58,59,60,61,62,63,64,65,66,67,68,69,70,71,72,73,74,75,76,77,78,79,80,81,82,83,84,85,86,87,88,89,90,91,92,93,94,95,96,97,98,99,100,101,102,103] (fun x=>[(47,.d (.int .i64 x.1)),(2,.d (.bool false)),(3,.map 1)]) (fun x=>[(1,.map (x.2.map RD.dw))]) (fun x=>x.2.map RD.ghost) (fun x=>x.1≤aI.length∧(aI.take x.1).all (jy aA.length fin)=true∧kG (aI.take x.1) x.2) (fun x=>aI.length - x.1) (0,[]) ⟨Nat.zero_le _,rfl,kG.nil⟩ rfl ?_ ?_
 ·(conv=>whnf);repeat (first | exact trivial | (refine sI ?_; conv=>whnf))
  refine And.intro rfl ?_;exact sZ
 rintro ⟨k,ds⟩ ⟨hk,aH,mV⟩ IH;simp only at hk aH mV;refine I.head af Tryz.func40 2000 ?_;(conv=>whnf);refine ah (fun h5=>?_) (fun h5=>?_)
 ·have ai:k<aI.length:=by simpa using h5
  obtain ⟨c,hc⟩:=aD ai;have la:=xx c (List.mem_of_getElem? hc);refine gO Tryz.func40 ?_;refine aB (e:=c.enc) (aN hc) rfl ?_;refine gO Tryz.func40 ?_;repeat' (first | with_reducible refine ao (sk c.az la) ?_ | with_reducible refine au (sk c.az la) ?_ | with_reducible refine cY ?_ | with_reducible refine cN ?_ | with_reducible refine ah (fun _=>?_) (fun _=>?_) | refine gA Tryz.func40 ?_ | refine gB ?_ | with_reducible rfl)
  all_goals try (have bL:jy aA.length fin c=false:=by (simp_all [jy] <;> omega))
  all_goals try (rw [cX hc bL]; simp; done)
  rename_i h1 h2 h3 h4 h5 h6;have aM:jy aA.length fin c=true:=by simp_all [jy]
  have zY:cS.en c.spot = .agg [.int .i64 c.host,.str c.az.aj]:=rfl;refine gO Tryz.func40 ?_;by_cases hex:∃ d∈ds,d.p=c.spot
  ·obtain ⟨d,hd,ju⟩:=hex;obtain ⟨p1,p2,rfl⟩:=List.append_of_mem hd;have hi:(p1++d::p2)[p1.length]? = some d:=by simp
   obtain ⟨e1,e2,e3⟩:=RR hi mV.nodup;rw [ju] at e1 e2 e3;rw [zY] at e1 e2 e3;have qi:=mV.len hd;have iN:∀ d':RD,(p1++d::p2).set p1.length d'=p1++d'::p2:=fun d'=>by simp
   refine I.mapEntry af (.raw (.slice none 0 0)) (.slice none 0 0) (.raw d.slice) p1.length ((p1++d::p2).map RD.dw) rfl rfl (fun _ _ => .raw _ rfl) ?_;(conv=>whnf);refine And.intro ⟨Af c.spot,JK⟩ (And.intro (fun w=>by kernel_rfl) (And.intro ⟨by rw [e1]; rfl,by rw [e2]; rfl,e3⟩ ?_));(conv=>whnf);refine I.run af Tryz.func40 1 ?_;(conv=>whnf);refine I.borrow 93 (cO:=⟨d.blk,d.cap,(169,2),d.l.map Span.enc⟩) (n:=d.l.length) (g1:=p1.map RD.ghost) (g2:=p2.map RD.ghost) (by show (p1++d::p2).map RD.ghost=_; simp [RD.ghost]) rfl (by simp) ?_;refine gO Tryz.func40 ?_;refine bc ⟨by simp at qi ⊢; omega,by simp [DV.cells]⟩ ?_;refine gO Tryz.func40 ?_;refine I.cT 101 4 rfl (Nat.zero_le _) rfl (fun oQ=>by simp at oQ) (fun blk cap=>?_);refine I.entryStore af p1.length (k0:=cS.en c.spot) (x0 := .raw d.slice) rfl rfl ?_;(conv=>whnf);refine And.intro (by simp [RD.dw,ju]) ?_;(conv=>whnf);refine And.intro rfl ?_;(conv=>whnf);refine gO Tryz.func40 ?_;refine I.C9 (rows:=(p1++⟨c.spot,d.l++[c.span],blk,cap⟩::p2).map RD.ghost) ?_ ?_
   ·have e:(p1++(⟨c.spot,d.l++[c.span],blk,cap⟩:RD)::p2).map RD.ghost=p1.map RD.ghost ++ .row ⟨blk,cap,(169,2),d.l.map Span.enc++[DV.agg [.int .i64 c.cj,.int .i64 c.upto]]⟩::p2.map RD.ghost:=by simp [RD.ghost,a7.span]
    rw [e];exact List.perm_middle.symm
   refine I.back (IH (k+1,p1++⟨c.spot,d.l++[c.span],blk,cap⟩::p2) ⟨by simp only; omega,dh aH hc aM,by simp only; rw [cQ hc]; exact mV.found ju blk cap⟩ (by simp only; omega)) ?_;(conv=>whnf);repeat (first | exact trivial | (refine sI ?_; conv=>whnf))
   refine And.intro (by simp [RD.dw,RD.slice,a7.span]) ?_;exact sZ
  ·have bL:∀ d∈ds,d.p≠c.spot:=fun d hd e=>hex ⟨d,hd,e⟩;obtain ⟨e1,e2,e3⟩:=JJ (v := .raw (.slice none 0 0)) bL;rw [zY] at e1 e2 e3;refine I.mapEntry af (.raw (.slice none 0 0)) (.slice none 0 0) (.raw (.slice none 0 0)) ds.length (ds.map RD.dw++[(cS.en c.spot,.raw (.slice none 0 0))]) rfl rfl (fun _ _ => .raw _ rfl) ?_;(conv=>whnf);refine And.intro ⟨Af c.spot,JK⟩ (And.intro (fun w=>by kernel_rfl) (And.intro ⟨by rw [e1]; rfl,by rw [e2]; simp,e3⟩ ?_));(conv=>whnf);refine I.run af Tryz.func40 1 ?_;(conv=>whnf);refine I.OO 93 (169,2) (by decide) rfl ?_;refine gO Tryz.func40 ?_;refine bc ⟨by simp,by simp [DV.cells]⟩ ?_;refine gO Tryz.func40 ?_;refine I.cT 101 4 rfl (Nat.zero_le _) rfl (fun oQ=>by simp at oQ) (fun blk cap=>?_);refine I.entryStore af ds.length (k0:=cS.en c.spot) (x0 := .raw (.slice none 0 0)) rfl rfl ?_;(conv=>whnf);refine And.intro (by simp) ?_;(conv=>whnf);refine And.intro rfl ?_;(conv=>whnf);refine gO Tryz.func40 ?_;refine I.C9 (rows:=(ds++[(⟨c.spot,[c.span],blk,cap⟩:RD)]).map RD.ghost) ?_ ?_
   ·have e:(ds++[(⟨c.spot,[c.span],blk,cap⟩:RD)]).map RD.ghost=ds.map RD.ghost++[.row ⟨blk,cap,(169,2),[]++[DV.agg [.int .i64 c.cj,.int .i64 c.upto]]⟩]:=by simp [RD.ghost,a7.span]
    rw [e];exact (List.perm_append_singleton _ _).symm
   refine I.back (IH (k+1,ds++[⟨c.spot,[c.span],blk,cap⟩]) ⟨by simp only; omega,dh aH hc aM,by simp only; rw [cQ hc]; exact mV.new bL blk cap⟩ (by simp only; omega)) ?_;(conv=>whnf);repeat (first | exact trivial | (refine sI ?_; conv=>whnf))
   refine And.intro (by simp [RD.dw,RD.slice,a7.span]) ?_;exact sZ
 ·have aC:aI.length≤k:=by simpa using h5
  rw [List.take_of_length_le aC] at aH mV;have hw:∀ d∈ds,∀ a∈d.l,a.cj<a.upto:=fun d hd a ha=>by
   rw [(mV.each d hd).1] at ha;obtain ⟨x,hx,rfl⟩:=List.mem_map.1 ha;have:=List.all_eq_true.1 aH x (List.mem_filter.1 hx).1;simp only [jy,Bool.and_eq_true,decide_eq_true_eq] at this;exact this.1.1.2
  have uK:=RN mV;rw [aH,Bool.true_and];refine gO Tryz.func40 ?_;refine I.range af rfl rfl rfl rfl (bg rfl) rfl (Nat.zero_le _) (fun it pU kh p9=>?_);obtain ⟨bm,r,en,ck,since,seen,es⟩:=it;simp only at pU kh p9;subst pU; subst kh;refine gO Tryz.func40 ?_;refine I.C8 (κ:=List Nat × List RD) ([3,43,104]++[2,8,9,106,107,108,109,110,111,112,113,114,115,116,117,118,119,120,121,122,123,124,125,126,127,128,129]) (fun _=>[(2,.d (.bool false))]) (fun _=>[]) (fun x => .iter ⟨bm,r,en,ck,since,x.1,ds.map RD.dw⟩::x.2.map RD.ghost) (fun x=>(∀ j d,ds[j]? = some d→j ∉ x.1→d∈x.2)∧(∀ d∈x.2,d∈ds)∧∀ j d,ds[j]? = some d→j∈x.1→Clear d.l) (fun x=>x.2.length) ([],ds) ⟨fun j d hd _=>List.mem_of_getElem? hd,fun _ h=>h,fun j d _ h=>by simp at h⟩ rfl ?_ ?_
  ·exact sZ
  rintro ⟨seen,pd⟩ ⟨o6,mM,D8⟩ mQ;simp only at o6 mM D8;refine I.head af Tryz.func40 2000 ?_;(conv=>whnf);refine I.next (it:=⟨bm,r,en,ck,since,seen,ds.map RD.dw⟩) (g1:=[]) (g2:=pd.map RD.ghost) rfl rfl p9 rfl (bg rfl) (fun sw=>?_) (fun j kk y hj jo=>?_)
  ·refine gO Tryz.func40 ?_;refine aQ ?_;refine gO Tryz.func40 ?_;have cH:aI.Pairwise mo:=uK.2 fun d hd=>by
    obtain ⟨j,hj⟩:=List.getElem?_of_mem hd;have hl:=aT hj;exact D8 j d hj (sw j (by simpa using hl))
   refine jK (Rl aI cZ) ?_;rintro u b ⟨du,rfl,rfl⟩;refine gO Tryz.func40 ?_;simp only [cH,decide_true,Bool.true_and,su,List.length_map]
   congr 2
   simp;omega
  ·obtain ⟨d,Aj,e⟩:∃ d,ds[j]? = some d∧RD.dw d=(kk,y):=by simpa using hj
   cases e;have hd:=List.mem_of_getElem? Aj;obtain ⟨p1,p2,rfl⟩:=List.append_of_mem (o6 j d Aj jo);refine gO Tryz.func40 ?_;refine aY ?_;refine gO Tryz.func40 ?_;refine I.entry (it:=⟨bm,r,en,ck,since,seen++[j],ds.map RD.dw⟩) (g1:=[]) (g2:=(p1++d::p2).map RD.ghost) (pre:=seen) (j:=j) rfl rfl rfl rfl hj (bg rfl) ?_;(conv=>whnf);refine I.run af Tryz.func40 2 ?_;(conv=>whnf);refine I.borrow 8 (cO:=⟨d.blk,d.cap,(169,2),d.l.map Span.enc⟩) (n:=d.l.length) (g1 := .iter ⟨bm,r,en,ck,since,seen++[j],ds.map RD.dw⟩::p1.map RD.ghost) (g2:=p2.map RD.ghost) (by show (_::(p1++d::p2).map RD.ghost)=_; simp [RD.ghost]) rfl (by simp) ?_;refine gO Tryz.func40 ?_;have RS:d.l≠[]:=(mV.each d hd).2;have qi:d.l.length≤aI.length:=mV.len hd;refine jK (RM d.l RS (by omega)) ?_;rintro u b ⟨rfl,l',pc,D9,rfl⟩;have qR:∀ a∈l',a.cj<a.upto:=fun a ha=>hw d hd a (pc.mem_iff.1 ha);have mE:l'.length≤aI.length:=by rw [pc.length_eq]; exact qi
   refine gO Tryz.func40 ?_;refine I.loop (κ:=Nat) ([2,9]++rg 112 18) (fun i=>[(9,.d (.int .i64 i)),(2,.d (.bool false))]) (fun _=>[]) (fun i=>1≤i∧i≤max 1 l'.length∧∀ (m:Nat) (a b:Span),m+1<i→l'[m]? = some a→l'[m+1]? = some b→a.upto≤b.cj) (fun i=>l'.length - i) 1 ⟨Nat.le_refl _,by omega,fun m a b h=>by omega⟩ ?_ ?_
   ·exact sZ
   rintro i ⟨tn,uh,JM⟩ xy;refine I.head af Tryz.func40 2000 ?_;(conv=>whnf);refine ah (fun h6=>?_) (fun h6=>?_)
   ·have ai:i<l'.length:=by simpa using h6
    obtain ⟨x,hx⟩:=aD ai;obtain ⟨q,hq⟩:∃ q,l'[i - 1]? = some q:=aD (by omega);refine gO Tryz.func40 ?_;refine I.bH af bI 2000 (by kernel_rfl) ?_;(conv=>whnf);refine bc ⟨by omega,by simp; omega⟩ ?_;refine gD ?_;refine aB (e:=x.enc) (aN hx) rfl ?_;refine gD ?_;have mW:IntKind.i64.wrap ((i:Int) - 1)=((i - 1:Nat):Int):=by rw [wrap64 (by omega) (by omega)]; omega
    refine bc ⟨by rw [mW]; omega,by rw [mW]; simp; omega⟩ ?_;refine gD ?_;refine aB (e:=q.enc) (by rw [mW,Int.toNat_natCast]; exact aN hq) rfl ?_;refine gD ?_;refine gO Tryz.func40 ?_;refine ah (fun h7=>?_) (fun h7=>?_)
    ·refine gO Tryz.func40 ?_;have RT:¬ aI.Pairwise mo:=fun hp=>RP qR D9 (by omega) hq hx (by simpa using h7) ((JI pc).2 (uK.1 hp d hd));simp [RT]
    ·refine gO Tryz.func40 ?_;refine I.back (xy (i+1) ⟨by omega,by omega,fun m a b hm ha hb=>?_⟩ (by omega)) ?_
     ·by_cases jm:m+1=i
      ·have e1:m=i - 1:=by omega
       subst e1;rw [hq] at ha;rw [jm,hx] at hb;cases ha; cases hb
       simpa using h7
      ·exact JM m a b (by omega) ha hb
     ·exact sZ
   ·have uH:l'.length≤i:=by simpa using h6
    have cH:Clear d.l:=(JI pc).1 (RO qR fun m a b ha hb=>JM m a b (by have:=aT hb; omega) ha hb);refine gO Tryz.func40 ?_;refine I.C9 (rows := .iter ⟨bm,r,en,ck,since,seen++[j],ds.map RD.dw⟩::(p1++p2).map RD.ghost) (List.Perm.of_eq (by simp)) ?_;have l5:=mV.nodup;refine I.back (mQ (seen++[j],p1++p2) ⟨fun j' d' eY dW=>?_,fun d' eY=>mM d' (by simp at eY ⊢; rcases eY with h | h <;> simp [h]),fun j' d' eY dW=>?_⟩ (by simp)) ?_
    ·simp only at eY dW ⊢;rw [List.mem_append,List.mem_singleton,not_or] at dW;have h1:=o6 j' d' eY dW.1;have aJ:d'≠d:=fun e=>by
      subst e;have q1:(ds.map (·.p))[j']? = some d'.p:=by simp [eY]
      have q2:(ds.map (·.p))[j]? = some d'.p:=by simp [Aj]
      exact dW.2 (D2 l5 q1 q2)
     rcases List.mem_append.1 h1 with h1 | h1
     ·exact List.mem_append_left _ h1
     ·rcases List.mem_cons.1 h1 with h1 | h1
      ·exact absurd h1 aJ
      ·exact List.mem_append_right _ h1
    ·simp only at dW;rw [List.mem_append,List.mem_singleton] at dW;rcases dW with dW | rfl
     ·exact D8 j' d' eY dW
     ·rw [Aj] at eY;cases eY;exact cH
    ·exact sZ
end Go.Proofs.YtfmdaiojokniiaaGreatDoor.P
end
section
namespace Go.Proofs.YtfmdaiojokniiaaGreatDoor.P
open Go Go.ax
set_option maxRecDepth 100000
set_option maxHeartbeats 4000000
theorem RU (l:List a7) (hl:l.length≤1000000) (hn:∀ c∈l,c.az.aj.length≤1000):aq E 76 [.sl (l.map a7.enc)] (· = .sl ((kE (l.map (·.az.aj))).map .str)):=by
 generalize hT:l.map (·.az.aj)=T;have Ae:T.length=l.length:=by rw [← hT]; simp
 have RV:∀ x∈T,x.length≤1000:=fun x hx=>by
  rw [← hT] at hx;obtain ⟨c,hc,rfl⟩:=List.mem_map.1 hx;exact hn c hc
 have y8:∀ k,(kE (T.take k)).length≤l.length:=fun k=>by
  rw [JC];have:=Ad (l:=T.take k) (acc:=[]);simp at this;omega
 refine eP Tryz.func76 ?_;refine I.tj 3 (9,1) (by decide) rfl ?_;refine I.loop (κ:=Nat) (rg 3 68) (fun k=>[(4,.d (.int .i64 k)),(3,.own 0 1)]) (fun k=>[(0,.arr 1 (9,1) ((kE (T.take k)).map .str))]) (fun k=>k≤l.length) (fun k=>l.length - k) 0 (Nat.zero_le _) ?_ ?_
 ·(conv=>whnf);repeat (first | exact trivial | (refine sI ?_; conv=>whnf))
  refine And.intro rfl ?_;exact sZ
 intro i hi IH;obtain ⟨hS,hM⟩:=JB (T.take i);have hC:=y8 i;have aE:∀ {a:Text},T[i]? = some a→kE (T.take (i+1))=kD (kE (T.take i)) a:=fun h=>Rx h;have JN:∀ x∈kE (T.take i),x.length≤1000:=fun x hx=>RV x (List.mem_of_mem_take ((hM x).1 hx));generalize hA:kE (T.take i)=A at hS hM hC aE JN;refine I.head af Tryz.func76 2000 ?_;(conv=>whnf);refine ah (fun h5=>?_) (fun h5=>?_)
 ·have ai:i<l.length:=by simpa using h5
  obtain ⟨c,hc⟩:=aD ai;have RW:T[i]? = some c.az.aj:=by rw [← hT]; simp [hc]
  have cH:=hn c (List.mem_of_getElem? hc);replace aE:=aE RW;refine gO Tryz.func76 ?_;refine aB (e:=c.enc) (aN hc) rfl ?_;refine gO Tryz.func76 ?_;refine I.loop (κ:=Nat) ([6]++rg 20 15) (fun k=>[(6,.d (.int .i64 k))]) (fun _=>[]) (fun k=>k≤A.length∧∀ m x,m<k→A[m]? = some x→bp x c.az.aj<0) (fun k=>A.length - k) 0 ⟨Nat.zero_le _,fun m x h=>by omega⟩ ?_ ?_
  ·exact sZ
  rintro k ⟨hk,iV⟩ mQ;refine I.head af Tryz.func76 2000 ?_;(conv=>whnf);refine ah (fun h6=>?_) (fun h6=>?_)
  ·have jV:k<A.length:=by simpa using h6
   obtain ⟨y,hy⟩:=aD jV;refine gO Tryz.func76 ?_;refine bc ⟨by omega,by simp; omega⟩ ?_;refine gO Tryz.func76 ?_;refine aB (e := .str y) (aN hy) rfl ?_;refine gO Tryz.func76 ?_
   with_reducible refine ao (Dd y c.az.aj (JN y (List.mem_of_getElem? hy)) cH) ?_
   refine gO Tryz.func76 ?_;refine ah (fun h7=>?_) (fun h7=>?_)
   ·refine gO Tryz.func76 ?_;refine I.back (mQ (k+1) ⟨by omega,fun m x hm hx=>?_⟩ (by omega)) ?_
    ·by_cases kC:m=k
     ·subst kC; rw [hy] at hx; cases hx; simpa using h7
     ·exact iV m x (by omega) hx
    ·exact sZ
   ·have oR:∀ x,A[k]? = some x→¬ bp x c.az.aj<0:=fun x hx=>by rw [hy] at hx; cases hx; simpa using h7
    refine gO Tryz.func76 ?_;refine aV (by simpa using jV) ?_;refine gO Tryz.func76 ?_;refine bc ⟨by omega,by simp; omega⟩ ?_;refine gO Tryz.func76 ?_;refine aB (e := .str y) (aN hy) rfl ?_;refine gO Tryz.func76 ?_;refine ah (fun h8=>?_) (fun h8=>?_)
    ·have uI:y=c.az.aj:=by simpa using h8
     refine gO Tryz.func76 ?_;refine I.back (IH (i+1) (by omega) (by omega)) ?_;rw [aE];have gJ:kD A c.az.aj=A:=by rw [kD,if_pos (by rw [← uI]; exact List.mem_of_getElem? hy)]
     rw [gJ];exact sZ
    ·have uI:A[k]? ≠ some c.az.aj:=fun e=>by rw [hy] at e; cases e; simp at h8
     obtain ⟨bL,D'⟩:=JA hS hk iV oR uI;rw [D'] at aE;refine gO Tryz.func76 ?_;refine bc ⟨by simp; omega,by simp [DV.cells]⟩ ?_;refine gO Tryz.func76 ?_;refine I.loop (κ:=Nat × Text) [7,54,55,56,57,58,59,60,61,62,63,64,65,66] (fun x=>[(7,.d (.int .i64 x.1)),(3,.own 0 2)]) (fun x=>[(0,.arr 2 (9,1) ((A.take x.1++x.2::A.drop x.1).map .str))]) (fun x=>k≤x.1∧x.1≤A.length) (fun x=>x.1 - k) (A.length,c.az.aj) ⟨hk,Nat.le_refl _⟩ ?_ ?_
     ·(conv=>whnf);repeat (first | exact trivial | (refine sI ?_; conv=>whnf))
      refine And.intro (by simp) ?_;(conv=>whnf);repeat (first | exact trivial | (refine sI ?_; conv=>whnf))
      refine And.intro (congrArg (DV.int .i64) ((wrap64 (by simp <;> omega) (by simp <;> omega)).trans (by simp only [List.length_append,List.length_map,List.length_singleton]; omega))) ?_;exact sZ
     rintro ⟨n,y⟩ ⟨Ea,gS⟩ xy;simp only at Ea gS;refine I.head af Tryz.func76 2000 ?_;(conv=>whnf);refine ah (fun h8=>?_) (fun h8=>?_)
     ·have xz:k<n:=by simpa using h8
      obtain ⟨z,hz⟩:=aD (l:=A) (k:=n - 1) (by omega);have mW:IntKind.i64.wrap ((n:Int) - 1)=((n - 1:Nat):Int):=by rw [wrap64 (by omega) (by omega)]; omega
      refine gO Tryz.func76 ?_;refine bc ⟨by rw [mW]; omega,by rw [mW]; simp; omega⟩ ?_;refine gO Tryz.func76 ?_;refine aB (e := .str z) ⟨by omega,by rw [mW,Int.toNat_natCast,Int.toNat_natCast,List.getElem?_map,List.getElem?_append_left (by simp; omega),List.getElem?_take,if_pos (by omega),hz]; rfl⟩ rfl ?_;refine gO Tryz.func76 ?_;refine bc ⟨by omega,by simp; omega⟩ ?_;refine gO Tryz.func76 ?_;refine aB (e := .str y) ⟨by omega,by simp [List.getElem?_append_right,List.length_take,Nat.min_eq_left gS]⟩ rfl ?_;refine gO Tryz.func76 ?_;refine gO Tryz.func76 ?_;refine I.back (xy (n - 1,z) ⟨by simp only; omega,by simp only; omega⟩ (by simp only; omega)) ?_;(conv=>whnf);repeat (first | exact trivial | (refine sI ?_; conv=>whnf))
      refine And.intro (JD hz (by omega)) ?_;exact sZ
     ·have xz : n = k := by have : n ≤ k := by simpa using h8
                            omega
      subst xz;refine gO Tryz.func76 ?_;refine bc ⟨by omega,by simp; omega⟩ ?_;refine gO Tryz.func76 ?_;refine aB (e := .str y) ⟨by omega,by simp [List.getElem?_append_right,List.length_take,Nat.min_eq_left gS]⟩ rfl ?_;refine gO Tryz.func76 ?_;refine gO Tryz.func76 ?_;refine I.back (IH (i+1) (by omega) (by omega)) ?_;rw [aE];(conv=>whnf);repeat (first | exact trivial | (refine sI ?_; conv=>whnf))
      refine And.intro (D6 gS) ?_;exact sZ
  ·have uH:A.length≤k:=by simpa using h6
   have JO:A[k]? = none:=List.getElem?_eq_none uH;obtain ⟨bL,D'⟩:=JA hS hk iV (fun x hx=>by rw [JO] at hx; cases hx) (by rw [JO]; simp);rw [D'] at aE;refine gO Tryz.func76 ?_;refine aQ ?_;refine gO Tryz.func76 ?_;refine aW (by simpa using uH) ?_;refine gO Tryz.func76 ?_;refine aQ ?_;refine gO Tryz.func76 ?_;refine bc ⟨by simp; omega,by simp [DV.cells]⟩ ?_;refine gO Tryz.func76 ?_;refine I.loop (κ:=Nat × Text) [7,54,55,56,57,58,59,60,61,62,63,64,65,66] (fun x=>[(7,.d (.int .i64 x.1)),(3,.own 0 2)]) (fun x=>[(0,.arr 2 (9,1) ((A.take x.1++x.2::A.drop x.1).map .str))]) (fun x=>k≤x.1∧x.1≤A.length) (fun x=>x.1 - k) (A.length,c.az.aj) ⟨hk,Nat.le_refl _⟩ ?_ ?_
   ·(conv=>whnf);repeat (first | exact trivial | (refine sI ?_; conv=>whnf))
    refine And.intro (by simp) ?_;(conv=>whnf);repeat (first | exact trivial | (refine sI ?_; conv=>whnf))
    refine And.intro (congrArg (DV.int .i64) ((wrap64 (by simp <;> omega) (by simp <;> omega)).trans (by simp only [List.length_append,List.length_map,List.length_singleton]; omega))) ?_;exact sZ
   rintro ⟨n,y⟩ ⟨Ea,gS⟩ xy;simp only at Ea gS;refine I.head af Tryz.func76 2000 ?_;(conv=>whnf);refine ah (fun h8=>?_) (fun h8=>?_)
   ·have xz:k<n:=by simpa using h8
    obtain ⟨z,hz⟩:=aD (l:=A) (k:=n - 1) (by omega);have mW:IntKind.i64.wrap ((n:Int) - 1)=((n - 1:Nat):Int):=by rw [wrap64 (by omega) (by omega)]; omega
    refine gO Tryz.func76 ?_;refine bc ⟨by rw [mW]; omega,by rw [mW]; simp; omega⟩ ?_;refine gO Tryz.func76 ?_;refine aB (e := .str z) ⟨by omega,by rw [mW,Int.toNat_natCast,Int.toNat_natCast,List.getElem?_map,List.getElem?_append_left (by simp; omega),List.getElem?_take,if_pos (by omega),hz]; rfl⟩ rfl ?_;refine gO Tryz.func76 ?_;refine bc ⟨by omega,by simp; omega⟩ ?_;refine gO Tryz.func76 ?_;refine aB (e := .str y) ⟨by omega,by simp [List.getElem?_append_right,List.length_take,Nat.min_eq_left gS]⟩ rfl ?_;refine gO Tryz.func76 ?_;refine gO Tryz.func76 ?_;refine I.back (xy (n - 1,z) ⟨by simp only; omega,by simp only; omega⟩ (by simp only; omega)) ?_;(conv=>whnf);repeat (first | exact trivial | (refine sI ?_; conv=>whnf))
    refine And.intro (JD hz (by omega)) ?_;exact sZ
   ·have xz : n = k := by have : n ≤ k := by simpa using h8
                          omega
    subst xz;refine gO Tryz.func76 ?_;refine bc ⟨by omega,by simp; omega⟩ ?_;refine gO Tryz.func76 ?_;refine aB (e := .str y) ⟨by omega,by simp [List.getElem?_append_right,List.length_take,Nat.min_eq_left gS]⟩ rfl ?_;refine gO Tryz.func76 ?_;refine gO Tryz.func76 ?_;refine I.back (IH (i+1) (by omega) (by omega)) ?_;rw [aE];(conv=>whnf);repeat (first | exact trivial | (refine sI ?_; conv=>whnf))
    refine And.intro (D6 gS) ?_;exact sZ
 ·have aC:l.length≤i:=by simpa using h5
  rw [List.take_of_length_le (by omega)] at hA;refine gO Tryz.func76 ?_;rw [hA]
end Go.Proofs.YtfmdaiojokniiaaGreatDoor.P
end
section
namespace Go.Proofs.YtfmdaiojokniiaaGreatDoor.P
open Go Go.ax
set_option maxRecDepth 100000
set_option maxHeartbeats 4000000
theorem RX {z:aR} (h:dI z=true):Nm.valid z.aj=true:=by
 simp only [dI,mg,Bool.and_eq_true] at h;simp_all
theorem RY {l:List a7} {i k:Nat} {c d:a7} (hc:l[i]? = some c) (hd:l[k]? = some d) (hk:k<i) (h:d.host=c.host∧d.az.aj=c.az.aj∧d.cj<c.upto∧c.cj<d.upto):¬ l.Pairwise mo:=fun hp=>by
 obtain ⟨p1,e1⟩:=List.getElem?_eq_some_iff.1 hc;obtain ⟨p2,e2⟩:=List.getElem?_eq_some_iff.1 hd;have:=List.pairwise_iff_getElem.1 hp k i p2 p1 hk;rw [e1,e2] at this;exact this (by simp [a7.spot,h.1,h.2.1]) h.2.2
theorem RZ {α:Type} {R:α→α→Prop} {l:List α} {i:Nat} {x:α} (h:(l.take i).Pairwise R) (hx:l[i]? = some x) (hn:∀ m y,m<i→l[m]? = some y→R y x):(l.take (i+1)).Pairwise R:=by
 rw [cQ hx,List.pairwise_append];refine ⟨h,by simp,fun a ha b hb=>?_⟩;simp at hb;subst hb;obtain ⟨m,hm⟩:=List.getElem?_of_mem ha;rw [List.getElem?_take] at hm;split at hm
 ·rename_i jm; exact hn m a jm hm
 ·cases hm
theorem R0 (h:ca) (hf:h.Fits) (cZ:h.aI.length≤1000000) (fp:h.hints.length≤1000000):aq E 29 [h.enc] (· = .bool (gd h)):=by
 obtain ⟨aA,aI,anchor,hints,bT,fin⟩:=h;obtain ⟨fH,iZ,xw,xx⟩:=hf;simp only at fH iZ xw xx cZ fp;show aq E _ [DV.agg [.sl (aA.map Host.enc),.sl (aI.map a7.enc),.str anchor.name,.int .i64 anchor.type,.int .i64 anchor.cD,.sl (anchor.data.map Datum.enc),.sl (hints.map (.int .i64)),.int .i64 bT,.int .i64 fin]] _;refine eP Tryz.func29 ?_;repeat' (first | with_reducible refine ao (Jy aA fH) ?_ | with_reducible refine au (Jy aA fH) ?_ | with_reducible refine ao (Jz anchor hints iZ fp) ?_ | with_reducible refine au (Jz anchor hints iZ fp) ?_ | with_reducible refine cY ?_ | with_reducible refine cN ?_ | with_reducible refine ah (fun _=>?_) (fun _=>?_) | refine gA Tryz.func29 ?_ | refine gB ?_ | with_reducible rfl)
 all_goals try (congr 1; simp_all [gd]; done)
 all_goals try (congr 1; simp_all [gd]; omega; done)
 rename_i h1 h2 h3 h4 h5 h6 h7;have eR:1≤fin∧fin≤10000000∧0≤bT∧bT≤1000∧aI.length≤4000:=by simp at h3 h4 h5 h6 h7; omega
 have hw:(fu aA&&iY anchor hints)=true:=by simp_all
 have bD:gd ⟨aA,aI,anchor,hints,bT,fin⟩=(aI.all (jy aA.length fin)&&decide (aI.Pairwise mo)&&decide (su aI≤500)):=by
  simp only [gd,hw];simp [eR.1,eR.2.1,eR.2.2.1,eR.2.2.2.1,eR.2.2.2.2,Bool.and_assoc]
 rw [bD];clear bD h1 h2 h3 h4 h5 h6 h7 hw;refine gO Tryz.func29 ?_;refine I.loop (κ:=Nat) (rg 2 5++rg 45 86) (fun k=>[(3,.d (.int .i64 k)),(2,.d (.bool false))]) (fun _=>[]) (fun k=>k≤aI.length∧(aI.take k).all (jy aA.length fin)=true∧(aI.take k).Pairwise mo) (fun k=>aI.length - k) 0 ⟨Nat.zero_le _,rfl,by simp⟩ ?_ ?_
 ·exact sZ
 rintro i ⟨hi,aH,Eb⟩ IH;refine I.head af Tryz.func29 2000 ?_;(conv=>whnf);refine ah (fun h5=>?_) (fun h5=>?_)
 ·have ai:i<aI.length:=by simpa using h5
  obtain ⟨c,hc⟩:=aD ai;have la:=xx c (List.mem_of_getElem? hc);refine gO Tryz.func29 ?_;refine aB (e:=c.enc) (aN hc) rfl ?_;refine gO Tryz.func29 ?_;repeat' (first | with_reducible refine ao (Dr c.az la) ?_ | with_reducible refine au (Dr c.az la) ?_ | with_reducible refine cY ?_ | with_reducible refine cN ?_ | with_reducible refine ah (fun _=>?_) (fun _=>?_) | refine gA Tryz.func29 ?_ | refine gB ?_ | with_reducible rfl)
  all_goals try (have bL:jy aA.length fin c=false:=by (simp_all [jy] <;> omega))
  all_goals try (rw [cX hc bL]; simp; done)
  rename_i h1 h2 h3 h4 h5 h6;have aM:jy aA.length fin c=true:=by simp_all [jy]
  refine gO Tryz.func29 ?_;refine I.loop (κ:=Nat) ([2,5,6]++rg 93 38) (fun k=>[(5,.d (.int .i64 k)),(2,.d (.bool false))]) (fun _=>[]) (fun k=>k≤i∧∀ m d,m<k→aI[m]? = some d→mo d c) (fun k=>i - k) 0 ⟨Nat.zero_le _,fun m y h=>by omega⟩ ?_ ?_
  ·exact sZ
  rintro k ⟨hk,aJ⟩ mQ;refine I.head af Tryz.func29 2000 ?_;(conv=>whnf);refine ah (fun h6=>?_) (fun h6=>?_)
  ·have jV:k<i:=by simpa using h6
   obtain ⟨d,hd⟩:=aD (l:=aI) (k:=k) (by omega);refine gO Tryz.func29 ?_;refine aB (e:=d.enc) (aN hd) rfl ?_;refine gO Tryz.func29 ?_;repeat' (first | with_reducible refine cY ?_ | with_reducible refine cN ?_ | with_reducible refine ah (fun _=>?_) (fun _=>?_) | refine gA Tryz.func29 ?_ | refine gB ?_ | with_reducible rfl)
   all_goals try
    (have oe := RY hc hd jV (by (simp_all <;> omega))
     simp [oe]; done)
   all_goals
    have uK:mo d c:=fun e=>by
     simp only [a7.spot,Prod.mk.injEq] at e;simp_all;try (intros; omega)
    refine gO Tryz.func29 ?_;refine I.back (mQ (k+1) ⟨by omega,fun m z hm hz=>?_⟩ (by omega)) ?_
    ·by_cases kC:m=k
     ·subst kC; rw [hd] at hz; cases hz; exact uK
     ·exact aJ m z (by omega) hz
    ·exact sZ
  ·have uH:i≤k:=by simpa using h6
   refine gO Tryz.func29 ?_;refine I.back (IH (i+1) ⟨by omega,dh aH hc aM,RZ Eb hc (fun m z hm hz=>aJ m z (by omega) hz)⟩ (by omega)) ?_;exact sZ
 ·have aC:aI.length≤i:=by simpa using h5
  rw [List.take_of_length_le aC] at aH Eb;have R2:∀ c∈aI,c.az.aj.length≤1000:=fun c hc=>by
   have h1:=List.all_eq_true.1 aH c hc;simp only [jy,Bool.and_eq_true] at h1;have:=eB (RX h1.2);omega
  refine gO Tryz.func29 ?_
  with_reducible refine ao (RU aI cZ R2) ?_
  refine gO Tryz.func29 ?_;simp only [aH,Eb,decide_true,Bool.true_and,su,JC,List.length_map]
  congr 2
  simp;omega
end Go.Proofs.YtfmdaiojokniiaaGreatDoor.P
end
