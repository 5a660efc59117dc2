/- Several texts of mine, one behind the other. Conditions: as each says. -/
import Derived.Test.YtfmdaiojokniiaaGreatDoorV21
import Derived.Test.YtfmdaiojokniiaaGreatDoorV25
set_option linter.unusedVariables false
set_option linter.unusedSimpArgs false
section
namespace Go.Proofs.YtfmdaiojokniiaaGreatDoor.P
open Go Go.aw
set_option maxRecDepth 100000
set_option maxHeartbeats 4000000
def aS.spot (c:aS):cP:=(c.host,c.az.ah)
def aS.span (c:aS):Span:=⟨c.bM,c.upto⟩
def gK (aA:Nat) (fin:Int) (c:aS):Bool:=decide (0≤c.host)&&decide (c.host<aA)&&decide (0≤c.bM)&&decide (c.bM<c.upto)&&decide (c.upto≤fin)&&dE c.az
def kR (d c:aS):Prop:=d.spot=c.spot→¬ (d.bM<c.upto∧c.bM<d.upto)
instance (d c : aS) : Decidable (kR d c) := by unfold kR; infer_instance
def pK (l:List aS):Nat:=(dv [] (l.map (·.az.ah))).length
def dg (h:bJ):Bool:=decide (1≤h.fin)&&decide (h.fin≤10000000)&&decide (0≤h.bS)&&decide (h.bS≤1000)&&decide (h.aB.length≤4000)&&(dW h.aA&&gJ h.anchor h.hints) &&
 h.aB.all (gK h.aA.length h.fin)&&decide (h.aB.Pairwise kR)&&decide (pK h.aB≤500)
structure bJ.Fits (h:bJ):Prop where
 aA:∀ x∈h.aA,x.name.length≤maxLen
 anchor:h.anchor.Fits
 hints:h.hints.length≤maxLen
 da:∀ c∈h.aB,c.az.Fits
structure RD where
 p:cP
 l:List Span
 blk:Nat
 cap:Nat
def RD.slice (d:RD):Value := .slice (some ⟨d.blk,0,none⟩) d.l.length d.cap
def RD.dy (d:RD):DV × DV:=(cP.en d.p,.raw d.slice)
def RD.ghost (d:RD):bk := .row ⟨d.blk,d.cap,(169,2),d.l.map Span.enc⟩
structure kS (l:List aS) (ds:List RD):Prop where
 nodup:(ds.map (·.p)).Nodup
 each:∀ d∈ds,d.l=(l.filter (fun c=>decide (c.spot=d.p))).map aS.span∧d.l≠[]
 all:∀ c∈l,∃ d∈ds,d.p=c.spot
theorem kS.nil:kS [] []:=⟨by simp,fun d hd=>by simp at hd,fun c hc=>by simp at hc⟩
def Clear (l:List Span):Prop:=l.Pairwise fun a b=>¬ (a.bM<b.upto∧b.bM<a.upto)
theorem Kb {l m:List Span} (h:l.Perm m):Clear l↔Clear m:=h.pairwise_iff fun {x y} h1 h2=>h1 ⟨h2.2,h2.1⟩
theorem Su {l:List aS} {ds:List RD} (h:kS l ds):l.Pairwise kR↔∀ d∈ds,Clear d.l:=by
 have each:∀ d∈ds,(Clear d.l↔l.Pairwise (fun a b=>a.spot=d.p→b.spot=d.p→¬ (a.bM<b.upto∧b.bM<a.upto))):=fun d hd=>by
  rw [(h.each d hd).1,Clear,List.pairwise_map,List.pairwise_filter];simp only [decide_eq_true_eq];rfl
 constructor
 ·intro hp d hd;rw [each d hd];exact hp.imp fun {a b} nZ h1 h2=>nZ (h1.trans h2.symm)
 ·intro hc;rw [List.pairwise_iff_getElem];intro i j hi hj dj hs;obtain ⟨d,hd,e⟩:=h.all l[i] (List.getElem_mem hi);have:=(each d hd).1 (hc d hd);rw [List.pairwise_iff_getElem] at this;exact this i j hi hj dj e.symm (hs.symm.trans e.symm)
theorem Sv {l:List Span} (hw:∀ a∈l,a.bM<a.upto) (h:∀ (m:Nat) (a b:Span),l[m]? = some a→l[m+1]? = some b→a.upto≤b.bM):Clear l:=by
 have main:∀ (n i:Nat) (a b:Span),l[i]? = some a→l[i+1+n]? = some b→a.upto≤b.bM:=by
  intro n
  induction n with
  |zero=>intro i a b ha hb; exact h i a b ha hb
  |succ n ih =>
   intro i a b ha hb;obtain ⟨c,hc⟩:∃ c,l[i+1+n]? = some c:=aL (by have:=aR hb; omega);have h1:=ih i a c ha hc;have h2:=h (i+1+n) c b hc hb;have h3:=hw c (List.mem_of_getElem? hc);omega
 unfold Clear;rw [List.pairwise_iff_getElem];intro i j hi hj dj h2;have:=main (j - i - 1) i l[i] l[j] (by simp) (by rw [show i+1+(j - i - 1)=j by omega]; simp);omega
theorem Sw {l:List Span} (hw:∀ a∈l,a.bM<a.upto) (hs:l.Pairwise (fun a b=>a.bM≤b.bM)) {i:Nat} {a b:Span} (h0:0<i) (ha:l[i - 1]? = some a) (hb:l[i]? = some b) (h:b.bM<a.upto):¬ Clear l:=fun hc=>by
 obtain ⟨p1,e1⟩:=List.getElem?_eq_some_iff.1 ha;obtain ⟨p2,e2⟩:=List.getElem?_eq_some_iff.1 hb;have h1:=List.pairwise_iff_getElem.1 hc (i - 1) i p1 p2 (by omega);have h2:=List.pairwise_iff_getElem.1 hs (i - 1) i p1 p2 (by omega);have h3:=hw b (List.mem_of_getElem? hb);rw [e1,e2] at h1 h2;exact h1 ⟨by omega,h⟩
theorem Sx {l:List aS} {p:cP} {ds:List RD} (h:kS l ds) (hn:∀ d∈ds,d.p≠p):l.filter (fun c=>decide (c.spot=p))=[]:=by
 rw [List.filter_eq_nil_iff];intro c hc hp;obtain ⟨d,hd,e⟩:=h.all c hc;exact hn d hd (e.trans (by simpa using hp))
theorem kS.found {l:List aS} {p1 p2:List RD} {d:RD} {c:aS} (h:kS l (p1++d::p2)) (hp:d.p=c.spot) (blk cap:Nat):kS (l++[c]) (p1++⟨c.spot,d.l++[c.span],blk,cap⟩::p2):=by
 have ew:=h.nodup;simp only [List.map_append,List.map_cons] at ew;have aJ:∀ e,e∈p1∨e∈p2→e.p≠c.spot:=fun e he q=>by
  rw [List.nodup_append] at ew;obtain ⟨h1,h2,h3⟩:=ew;rw [List.nodup_cons] at h2;rcases he with he | he
  ·exact h3 e.p (List.mem_map_of_mem he) d.p (List.mem_cons_self ..) (q.trans hp.symm)
  ·exact h2.1 (List.mem_map.2 ⟨e,he,q.trans hp.symm⟩)
 have hold:∀ e,e∈p1∨e∈p2→e.l=((l++[c]).filter (fun c=>decide (c.spot=e.p))).map aS.span∧e.l≠[]:=fun e he=>by
  have h1:=h.each e (by rcases he with he | he <;> simp [he]);have h2:¬ c.spot=e.p:=fun q=>aJ e he q.symm;refine ⟨?_,h1.2⟩;rw [List.filter_append,List.filter_cons_of_neg (by simpa using h2),List.filter_nil,List.append_nil];exact h1.1
 refine ⟨?_,fun e he=>?_,fun x hx=>?_⟩
 ·simp only [List.map_append,List.map_cons];rw [← hp];exact ew
 ·rcases List.mem_append.1 he with he | he
  ·exact hold e (.inl he)
  ·rcases List.mem_cons.1 he with rfl | he
   ·have h1:=h.each d (by simp);refine ⟨?_,by simp⟩;show d.l++[c.span]=_;rw [List.filter_append,List.filter_cons_of_pos (by simp),List.filter_nil,List.map_append,h1.1,hp];rfl
   ·exact hold e (.inr he)
 ·rcases List.mem_append.1 hx with hx | hx
  ·obtain ⟨e,he,q⟩:=h.all x hx;rcases List.mem_append.1 he with he | he
   ·exact ⟨e,by simp [he],q⟩
   ·rcases List.mem_cons.1 he with rfl | he
    ·exact ⟨⟨c.spot,e.l++[c.span],blk,cap⟩,by simp,hp.symm.trans q⟩
    ·exact ⟨e,by simp [he],q⟩
  ·simp at hx;subst hx;exact ⟨⟨x.spot,d.l++[x.span],blk,cap⟩,by simp,rfl⟩
theorem kS.new {l:List aS} {ds:List RD} {c:aS} (h:kS l ds) (hn:∀ d∈ds,d.p≠c.spot) (blk cap:Nat):kS (l++[c]) (ds++[⟨c.spot,[c.span],blk,cap⟩]):=by
 refine ⟨?_,fun e he=>?_,fun x hx=>?_⟩
 ·rw [List.map_append,List.nodup_append];refine ⟨h.nodup,by simp,fun a ha b hb q=>?_⟩;simp at hb;subst hb; subst q;obtain ⟨d,hd,q⟩:=List.mem_map.1 ha;exact hn d hd q
 ·rcases List.mem_append.1 he with he | he
  ·have h1:=h.each e he;have h2:¬ c.spot=e.p:=fun q=>hn e he q.symm;refine ⟨?_,h1.2⟩;rw [List.filter_append,List.filter_cons_of_neg (by simpa using h2),List.filter_nil,List.append_nil];exact h1.1
  ·simp at he;subst he;refine ⟨?_,by simp⟩;show [c.span]=_;rw [List.filter_append,List.filter_cons_of_pos (by simp),List.filter_nil,Sx h hn];rfl
 ·rcases List.mem_append.1 hx with hx | hx
  ·obtain ⟨e,he,q⟩:=h.all x hx;exact ⟨e,by simp [he],q⟩
  ·simp at hx;subst hx;exact ⟨⟨x.spot,[x.span],blk,cap⟩,by simp,rfl⟩
theorem kS.len {l:List aS} {ds:List RD} (h:kS l ds) {d:RD} (hd:d∈ds):d.l.length≤l.length:=by
 rw [(h.each d hd).1,List.length_map];exact List.length_filter_le _ _
theorem Sy {ds:List RD}:∀ {i:Nat} {d:RD},ds[i]? = some d→(ds.map (·.p)).Nodup→findD (cP.en d.p) (ds.map RD.dy)=some (.raw d.slice)∧eh (cP.en d.p) (ds.map RD.dy)=some i∧bO (cP.en d.p) (.raw d.slice) (ds.map RD.dy)=ds.map RD.dy:=by
 induction ds with
 |nil=>intro i d h; simp at h
 |cons e ds ih =>
  intro i d h hn;simp only [List.map_cons,List.nodup_cons] at hn;cases i with
  |zero =>
   simp at h;subst h;simp [findD,eh,bO,RD.dy,oB]
  |succ i =>
   have h':ds[i]? = some d:=by simpa using h
   have aJ:¬ d.p=e.p:=fun q=>hn.1 (List.mem_map.2 ⟨d,List.mem_of_getElem? h',q⟩);obtain ⟨h1,h2,h3⟩:=ih h' hn.2;simp only [List.map_cons,findD,eh,bO,RD.dy,oB,aJ,decide_false,Bool.false_eq_true,if_false];exact ⟨h1,by rw [h2]; rfl,by rw [h3]⟩
theorem Kc {p:cP} {v:DV}:∀ {ds:List RD},(∀ d∈ds,d.p≠p)→findD (cP.en p) (ds.map RD.dy)=none∧eh (cP.en p) (ds.map RD.dy)=none∧bO (cP.en p) v (ds.map RD.dy)=ds.map RD.dy++[(cP.en p,v)]
 | [],_=>by simp [findD,eh,bO]
 |e::ds,h=>by
  have aJ:¬ p=e.p:=fun q=>h e (List.mem_cons_self ..) q.symm;obtain ⟨h1,h2,h3⟩:=Kc (p:=p) (v:=v) (ds:=ds) (fun d hd=>h d (List.mem_cons_of_mem _ hd));simp only [List.map_cons,findD,eh,bO,RD.dy,oB,aJ,decide_false,Bool.false_eq_true,if_false];exact ⟨h1,by rw [h2]; rfl,by rw [h3]; rfl⟩
theorem Kd {ds:List RD}:∀ p∈ds.map RD.dy,cW E.T (TK.struct [(0,3),(1,9)]) p.1:=fun p hp=>by
 obtain ⟨d,-,rfl⟩:=List.mem_map.1 hp;exact AD d.p
theorem Ex (h:bJ) (hf:h.Fits) (cR:h.aB.length≤1000000):aq E 40 [h.enc] (· = .bool (dg h)):=by
 obtain ⟨aA,aB,anchor,hints,bS,fin⟩:=h;obtain ⟨fN,jg,xX,xY⟩:=hf;simp only at fN jg xX xY cR;show aq E _ [DV.agg [.sl (aA.map Host.enc),.sl (aB.map aS.enc),.str anchor.name,.int .i64 anchor.type,.int .i64 anchor.cD,.sl (anchor.data.map Datum.enc),.sl (hints.map (.int .i64)),.int .i64 bS,.int .i64 fin]] _;refine eP Tryz.func40 ?_;repeat' (first | with_reducible refine ao (JX aA anchor hints fN jg xX) ?_ | with_reducible refine ay (JX aA anchor hints fN jg xX) ?_ | with_reducible refine cY ?_ | with_reducible refine cN ?_ | with_reducible refine ai (fun _=>?_) (fun _=>?_) | refine gA Tryz.func40 ?_ | refine gB ?_ | with_reducible rfl)
 all_goals try (congr 1; simp_all [dg]; done)
 all_goals try (congr 1; simp_all [dg]; omega; done)
 ·rename_i h6;have hw:(dW aA&&gJ anchor hints)=false:=by
   cases hq:(dW aA&&gJ anchor hints)
   ·rfl
   ·rw [hq] at h6; cases h6
  simp only [dg,hw];simp
 rename_i h1 h2 h3 h4 h5 h6;have hw:(dW aA&&gJ anchor hints)=true:=by
  cases hq:(dW aA&&gJ anchor hints)
  ·rw [hq] at h6; cases h6
  ·rfl
 have eM:1≤fin∧fin≤10000000∧0≤bS∧bS≤1000∧aB.length≤4000:=by simp at h1 h2 h3 h4 h5; omega
 have bK:dg ⟨aA,aB,anchor,hints,bS,fin⟩=(aB.all (gK aA.length fin)&&decide (aB.Pairwise kR)&&decide (pK aB≤500)):=by
  simp only [dg,hw];simp [eM.1,eM.2.1,eM.2.2.1,eM.2.2.2.1,eM.2.2.2.2,Bool.and_assoc]
 rw [bK];clear bK h1 h2 h3 h4 h5 h6 hw;refine gO Tryz.func40 ?_;refine gO Tryz.func40 ?_;refine I.Dz (κ:=Nat × List RD) [2,5,6,47,48,49,50,51,52,53,54,55,56,57,58,59,60,61,62,63,64,65,66,67,68,69,70,71,72,73,74,75,76,77,78,79,80,81,82,83,84,85,86,87,88,89,90,91,92,93,94,95,96,97,98,99,100,101,102,103] (fun x=>[(47,.d (.int .i64 x.1)),(2,.d (.bool false)),(3,.map 1)]) (fun x=>[(1,.map (x.2.map RD.dy))]) (fun x=>x.2.map RD.ghost) (fun x=>x.1≤aB.length∧(aB.take x.1).all (gK aA.length fin)=true∧kS (aB.take x.1) x.2) (fun x=>aB.length - x.1) (0,[]) ⟨Nat.zero_le _,rfl,kS.nil⟩ rfl ?_ ?_
 ·(conv=>whnf);repeat (first | exact trivial | (refine sI ?_; conv=>whnf))
  refine And.intro rfl ?_;exact sZ
 rintro ⟨k,ds⟩ ⟨hk,aW,nA⟩ IH;simp only at hk aW nA;refine I.head af Tryz.func40 2000 ?_;(conv=>whnf);refine ai (fun h5=>?_) (fun h5=>?_)
 ·have aj:k<aB.length:=by simpa using h5
  obtain ⟨c,hc⟩:=aL aj;have lE:=xY c (List.mem_of_getElem? hc);refine gO Tryz.func40 ?_;refine aE (e:=c.enc) (aX hc) rfl ?_;refine gO Tryz.func40 ?_;repeat' (first | with_reducible refine ao (sS c.az lE) ?_ | with_reducible refine ay (sS c.az lE) ?_ | with_reducible refine cY ?_ | with_reducible refine cN ?_ | with_reducible refine ai (fun _=>?_) (fun _=>?_) | refine gA Tryz.func40 ?_ | refine gB ?_ | with_reducible rfl)
  all_goals try (have bL:gK aA.length fin c=false:=by (simp_all [gK] <;> omega))
  all_goals try (rw [eX hc bL]; simp; done)
  rename_i h1 h2 h3 h4 h5 h6;have aO:gK aA.length fin c=true:=by simp_all [gK]
  have As:cP.en c.spot = .agg [.int .i64 c.host,.str c.az.ah]:=rfl;refine gO Tryz.func40 ?_;by_cases hex:∃ d∈ds,d.p=c.spot
  ·obtain ⟨d,hd,jD⟩:=hex;obtain ⟨p1,p2,rfl⟩:=List.append_of_mem hd;have hi:(p1++d::p2)[p1.length]? = some d:=by simp
   obtain ⟨e1,e2,e3⟩:=Sy hi nA.nodup;rw [jD] at e1 e2 e3;rw [As] at e1 e2 e3;have qO:=nA.len hd;have iW:∀ d':RD,(p1++d::p2).set p1.length d'=p1++d'::p2:=fun d'=>by simp
   refine I.mapEntry af (.raw (.slice none 0 0)) (.slice none 0 0) (.raw d.slice) p1.length ((p1++d::p2).map RD.dy) rfl rfl (fun _ _ => .raw _ rfl) ?_;(conv=>whnf);refine And.intro ⟨AD c.spot,Kd⟩ (And.intro (fun w=>by kernel_rfl) (And.intro ⟨by rw [e1]; rfl,by rw [e2]; rfl,e3⟩ ?_));(conv=>whnf);refine I.run af Tryz.func40 1 ?_;(conv=>whnf);refine I.borrow 93 (cO:=⟨d.blk,d.cap,(169,2),d.l.map Span.enc⟩) (n:=d.l.length) (g1:=p1.map RD.ghost) (g2:=p2.map RD.ghost) (by show (p1++d::p2).map RD.ghost=_; simp [RD.ghost]) rfl (by simp) ?_;refine gO Tryz.func40 ?_;refine a8 ⟨by simp at qO ⊢; omega,by simp [DV.cells]⟩ ?_;refine gO Tryz.func40 ?_;refine I.cT 101 4 rfl (Nat.zero_le _) rfl (fun nt=>by simp at nt) (fun blk cap=>?_);refine I.entryStore af p1.length (k0:=cP.en c.spot) (x0 := .raw d.slice) rfl rfl ?_;(conv=>whnf);refine And.intro (by simp [RD.dy,jD]) ?_;(conv=>whnf);refine And.intro rfl ?_;(conv=>whnf);refine gO Tryz.func40 ?_;refine I.DA (rows:=(p1++⟨c.spot,d.l++[c.span],blk,cap⟩::p2).map RD.ghost) ?_ ?_
   ·have e:(p1++(⟨c.spot,d.l++[c.span],blk,cap⟩:RD)::p2).map RD.ghost=p1.map RD.ghost ++ .row ⟨blk,cap,(169,2),d.l.map Span.enc++[DV.agg [.int .i64 c.bM,.int .i64 c.upto]]⟩::p2.map RD.ghost:=by simp [RD.ghost,aS.span]
    rw [e];exact List.perm_middle.symm
   refine I.back (IH (k+1,p1++⟨c.spot,d.l++[c.span],blk,cap⟩::p2) ⟨by simp only; omega,fm aW hc aO,by simp only; rw [cI hc]; exact nA.found jD blk cap⟩ (by simp only; omega)) ?_;(conv=>whnf);repeat (first | exact trivial | (refine sI ?_; conv=>whnf))
   refine And.intro (by simp [RD.dy,RD.slice,aS.span]) ?_;exact sZ
  ·have bL:∀ d∈ds,d.p≠c.spot:=fun d hd e=>hex ⟨d,hd,e⟩;obtain ⟨e1,e2,e3⟩:=Kc (v := .raw (.slice none 0 0)) bL;rw [As] at e1 e2 e3;refine I.mapEntry af (.raw (.slice none 0 0)) (.slice none 0 0) (.raw (.slice none 0 0)) ds.length (ds.map RD.dy++[(cP.en c.spot,.raw (.slice none 0 0))]) rfl rfl (fun _ _ => .raw _ rfl) ?_;(conv=>whnf);refine And.intro ⟨AD c.spot,Kd⟩ (And.intro (fun w=>by kernel_rfl) (And.intro ⟨by rw [e1]; rfl,by rw [e2]; simp,e3⟩ ?_));(conv=>whnf);refine I.run af Tryz.func40 1 ?_;(conv=>whnf);refine I.PG 93 (169,2) (by decide) rfl ?_;refine gO Tryz.func40 ?_;refine a8 ⟨by simp,by simp [DV.cells]⟩ ?_;refine gO Tryz.func40 ?_;refine I.cT 101 4 rfl (Nat.zero_le _) rfl (fun nt=>by simp at nt) (fun blk cap=>?_);refine I.entryStore af ds.length (k0:=cP.en c.spot) (x0 := .raw (.slice none 0 0)) rfl rfl ?_;(conv=>whnf);refine And.intro (by simp) ?_;(conv=>whnf);refine And.intro rfl ?_;(conv=>whnf);refine gO Tryz.func40 ?_;refine I.DA (rows:=(ds++[(⟨c.spot,[c.span],blk,cap⟩:RD)]).map RD.ghost) ?_ ?_
   ·have e:(ds++[(⟨c.spot,[c.span],blk,cap⟩:RD)]).map RD.ghost=ds.map RD.ghost++[.row ⟨blk,cap,(169,2),[]++[DV.agg [.int .i64 c.bM,.int .i64 c.upto]]⟩]:=by simp [RD.ghost,aS.span]
    rw [e];exact (List.perm_append_singleton _ _).symm
   refine I.back (IH (k+1,ds++[⟨c.spot,[c.span],blk,cap⟩]) ⟨by simp only; omega,fm aW hc aO,by simp only; rw [cI hc]; exact nA.new bL blk cap⟩ (by simp only; omega)) ?_;(conv=>whnf);repeat (first | exact trivial | (refine sI ?_; conv=>whnf))
   refine And.intro (by simp [RD.dy,RD.slice,aS.span]) ?_;exact sZ
 ·have aC:aB.length≤k:=by simpa using h5
  rw [List.take_of_length_le aC] at aW nA;have hw:∀ d∈ds,∀ a∈d.l,a.bM<a.upto:=fun d hd a ha=>by
   rw [(nA.each d hd).1] at ha;obtain ⟨x,hx,rfl⟩:=List.mem_map.1 ha;have:=List.all_eq_true.1 aW x (List.mem_filter.1 hx).1;simp only [gK,Bool.and_eq_true,decide_eq_true_eq] at this;exact this.1.1.2
  have vj:=Su nA;rw [aW,Bool.true_and];refine gO Tryz.func40 ?_;refine I.range af rfl rfl rfl rfl (aP rfl) rfl (Nat.zero_le _) (fun it qB kx qI=>?_);obtain ⟨bm,r,en,ck,since,seen,es⟩:=it;simp only at qB kx qI;subst qB; subst kx;refine gO Tryz.func40 ?_;refine I.Dz (κ:=List Nat × List RD) ([3,43,104]++[2,8,9,106,107,108,109,110,111,112,113,114,115,116,117,118,119,120,121,122,123,124,125,126,127,128,129]) (fun _=>[(2,.d (.bool false))]) (fun _=>[]) (fun x => .iter ⟨bm,r,en,ck,since,x.1,ds.map RD.dy⟩::x.2.map RD.ghost) (fun x=>(∀ j d,ds[j]? = some d→j ∉ x.1→d∈x.2)∧(∀ d∈x.2,d∈ds)∧∀ j d,ds[j]? = some d→j∈x.1→Clear d.l) (fun x=>x.2.length) ([],ds) ⟨fun j d hd _=>List.mem_of_getElem? hd,fun _ h=>h,fun j d _ h=>by simp at h⟩ rfl ?_ ?_
  ·exact sZ
  rintro ⟨seen,pd⟩ ⟨pC,nk,Ey⟩ py;simp only at pC nk Ey;refine I.head af Tryz.func40 2000 ?_;(conv=>whnf);refine I.next (it:=⟨bm,r,en,ck,since,seen,ds.map RD.dy⟩) (g1:=[]) (g2:=pd.map RD.ghost) rfl rfl qI rfl (aP rfl) (fun Sz=>?_) (fun j kk y hj jw=>?_)
  ·refine gO Tryz.func40 ?_;refine aQ ?_;refine gO Tryz.func40 ?_;have dm:aB.Pairwise kR:=vj.2 fun d hd=>by
    obtain ⟨j,hj⟩:=List.getElem?_of_mem hd;have hl:=aR hj;exact Ey j d hj (Sz j (by simpa using hl))
   refine jx (R4 aB cR) ?_;rintro u b ⟨db,rfl,rfl⟩;refine gO Tryz.func40 ?_;simp only [dm,decide_true,Bool.true_and,pK,List.length_map]
   congr 2
   simp;omega
  ·obtain ⟨d,AI,e⟩:∃ d,ds[j]? = some d∧RD.dy d=(kk,y):=by simpa using hj
   cases e;have hd:=List.mem_of_getElem? AI;obtain ⟨p1,p2,rfl⟩:=List.append_of_mem (pC j d AI jw);refine gO Tryz.func40 ?_;refine aV ?_;refine gO Tryz.func40 ?_;refine I.entry (it:=⟨bm,r,en,ck,since,seen++[j],ds.map RD.dy⟩) (g1:=[]) (g2:=(p1++d::p2).map RD.ghost) (pre:=seen) (j:=j) rfl rfl rfl rfl hj (aP rfl) ?_;(conv=>whnf);refine I.run af Tryz.func40 2 ?_;(conv=>whnf);refine I.borrow 8 (cO:=⟨d.blk,d.cap,(169,2),d.l.map Span.enc⟩) (n:=d.l.length) (g1 := .iter ⟨bm,r,en,ck,since,seen++[j],ds.map RD.dy⟩::p1.map RD.ghost) (g2:=p2.map RD.ghost) (by show (_::(p1++d::p2).map RD.ghost)=_; simp [RD.ghost]) rfl (by simp) ?_;refine gO Tryz.func40 ?_;have SA:d.l≠[]:=(nA.each d hd).2;have qO:d.l.length≤aB.length:=nA.len hd;refine jx (St d.l SA (by omega)) ?_;rintro u b ⟨rfl,l',mM,Ez,rfl⟩;have rE:∀ a∈l',a.bM<a.upto:=fun a ha=>hw d hd a (mM.mem_iff.1 ha);have jQ:l'.length≤aB.length:=by rw [mM.length_eq]; exact qO
   refine gO Tryz.func40 ?_;refine I.loop (κ:=Nat) ([2,9]++rg 112 18) (fun i=>[(9,.d (.int .i64 i)),(2,.d (.bool false))]) (fun _=>[]) (fun i=>1≤i∧i≤max 1 l'.length∧∀ (m:Nat) (a b:Span),m+1<i→l'[m]? = some a→l'[m+1]? = some b→a.upto≤b.bM) (fun i=>l'.length - i) 1 ⟨Nat.le_refl _,by omega,fun m a b h=>by omega⟩ ?_ ?_
   ·exact sZ
   rintro i ⟨tO,qK,Ke⟩ xZ;refine I.head af Tryz.func40 2000 ?_;(conv=>whnf);refine ai (fun h6=>?_) (fun h6=>?_)
   ·have aj:i<l'.length:=by simpa using h6
    obtain ⟨x,hx⟩:=aL aj;obtain ⟨q,hq⟩:∃ q,l'[i - 1]? = some q:=aL (by omega);refine gO Tryz.func40 ?_;refine I.bH af bI 2000 (by kernel_rfl) ?_;(conv=>whnf);refine a8 ⟨by omega,by simp; omega⟩ ?_;refine gD ?_;refine aE (e:=x.enc) (aX hx) rfl ?_;refine gD ?_;have nB:IntKind.i64.wrap ((i:Int) - 1)=((i - 1:Nat):Int):=by rw [wrap64 (by omega) (by omega)]; omega
    refine a8 ⟨by rw [nB]; omega,by rw [nB]; simp; omega⟩ ?_;refine gD ?_;refine aE (e:=q.enc) (by rw [nB,Int.toNat_natCast]; exact aX hq) rfl ?_;refine gD ?_;refine gO Tryz.func40 ?_;refine ai (fun h7=>?_) (fun h7=>?_)
    ·refine gO Tryz.func40 ?_;have SB:¬ aB.Pairwise kR:=fun hp=>Sw rE Ez (by omega) hq hx (by simpa using h7) ((Kb mM).2 (vj.1 hp d hd));simp [SB]
    ·refine gO Tryz.func40 ?_;refine I.back (xZ (i+1) ⟨by omega,by omega,fun m a b hm ha hb=>?_⟩ (by omega)) ?_
     ·by_cases ju:m+1=i
      ·have e1:m=i - 1:=by omega
       subst e1;rw [hq] at ha;rw [ju,hx] at hb;cases ha; cases hb
       simpa using h7
      ·exact Ke m a b (by omega) ha hb
     ·exact sZ
   ·have xV:l'.length≤i:=by simpa using h6
    have dm:Clear d.l:=(Kb mM).1 (Sv rE fun m a b ha hb=>Ke m a b (by have:=aR hb; omega) ha hb);refine gO Tryz.func40 ?_;refine I.DA (rows := .iter ⟨bm,r,en,ck,since,seen++[j],ds.map RD.dy⟩::(p1++p2).map RD.ghost) (List.Perm.of_eq (by simp)) ?_;have my:=nA.nodup;refine I.back (py (seen++[j],p1++p2) ⟨fun j' d' eo dI=>?_,fun d' eo=>nk d' (by simp at eo ⊢; rcases eo with h | h <;> simp [h]),fun j' d' eo dI=>?_⟩ (by simp)) ?_
    ·simp only at eo dI ⊢;rw [List.mem_append,List.mem_singleton,not_or] at dI;have h1:=pC j' d' eo dI.1;have aJ:d'≠d:=fun e=>by
      subst e;have q1:(ds.map (·.p))[j']? = some d'.p:=by simp [eo]
      have q2:(ds.map (·.p))[j]? = some d'.p:=by simp [AI]
      exact dI.2 (Er my q1 q2)
     rcases List.mem_append.1 h1 with h1 | h1
     ·exact List.mem_append_left _ h1
     ·rcases List.mem_cons.1 h1 with h1 | h1
      ·exact absurd h1 aJ
      ·exact List.mem_append_right _ h1
    ·simp only at dI;rw [List.mem_append,List.mem_singleton] at dI;rcases dI with dI | rfl
     ·exact Ey j' d' eo dI
     ·rw [AI] at eo;cases eo;exact dm
    ·exact sZ
end Go.Proofs.YtfmdaiojokniiaaGreatDoor.P
end
section
namespace Go.Proofs.YtfmdaiojokniiaaGreatDoor.P
open Go Go.aw
set_option maxRecDepth 100000
set_option maxHeartbeats 4000000
theorem SC (l:List aS) (hl:l.length≤1000000) (hn:∀ c∈l,c.az.ah.length≤1000):aq E 76 [.sl (l.map aS.enc)] (· = .sl ((kP (l.map (·.az.ah))).map .str)):=by
 generalize hT:l.map (·.az.ah)=T;have AB:T.length=l.length:=by rw [← hT]; simp
 have SD:∀ x∈T,x.length≤1000:=fun x hx=>by
  rw [← hT] at hx;obtain ⟨c,hc,rfl⟩:=List.mem_map.1 hx;exact hn c hc
 have zF:∀ k,(kP (T.take k)).length≤l.length:=fun k=>by
  rw [J8];have:=AA (l:=T.take k) (acc:=[]);simp at this;omega
 refine eP Tryz.func76 ?_;refine I.tN 3 (9,1) (by decide) rfl ?_;refine I.loop (κ:=Nat) (rg 3 68) (fun k=>[(4,.d (.int .i64 k)),(3,.own 0 1)]) (fun k=>[(0,.arr 1 (9,1) ((kP (T.take k)).map .str))]) (fun k=>k≤l.length) (fun k=>l.length - k) 0 (Nat.zero_le _) ?_ ?_
 ·(conv=>whnf);repeat (first | exact trivial | (refine sI ?_; conv=>whnf))
  refine And.intro rfl ?_;exact sZ
 intro i hi IH;obtain ⟨hS,hM⟩:=J7 (T.take i);have hC:=zF i;have aF:∀ {a:Text},T[i]? = some a→kP (T.take (i+1))=kO (kP (T.take i)) a:=fun h=>Sf h;have Kg:∀ x∈kP (T.take i),x.length≤1000:=fun x hx=>SD x (List.mem_of_mem_take ((hM x).1 hx));generalize hA:kP (T.take i)=A at hS hM hC aF Kg;refine I.head af Tryz.func76 2000 ?_;(conv=>whnf);refine ai (fun h5=>?_) (fun h5=>?_)
 ·have aj:i<l.length:=by simpa using h5
  obtain ⟨c,hc⟩:=aL aj;have SE:T[i]? = some c.az.ah:=by rw [← hT]; simp [hc]
  have dm:=hn c (List.mem_of_getElem? hc);replace aF:=aF SE;refine gO Tryz.func76 ?_;refine aE (e:=c.enc) (aX hc) rfl ?_;refine gO Tryz.func76 ?_;refine I.loop (κ:=Nat) ([6]++rg 20 15) (fun k=>[(6,.d (.int .i64 k))]) (fun _=>[]) (fun k=>k≤A.length∧∀ m x,m<k→A[m]? = some x→bu x c.az.ah<0) (fun k=>A.length - k) 0 ⟨Nat.zero_le _,fun m x h=>by omega⟩ ?_ ?_
  ·exact sZ
  rintro k ⟨hk,je⟩ py;refine I.head af Tryz.func76 2000 ?_;(conv=>whnf);refine ai (fun h6=>?_) (fun h6=>?_)
  ·have lN:k<A.length:=by simpa using h6
   obtain ⟨y,hy⟩:=aL lN;refine gO Tryz.func76 ?_;refine a8 ⟨by omega,by simp; omega⟩ ?_;refine gO Tryz.func76 ?_;refine aE (e := .str y) (aX hy) rfl ?_;refine gO Tryz.func76 ?_
   with_reducible refine ao (DJ y c.az.ah (Kg y (List.mem_of_getElem? hy)) dm) ?_
   refine gO Tryz.func76 ?_;refine ai (fun h7=>?_) (fun h7=>?_)
   ·refine gO Tryz.func76 ?_;refine I.back (py (k+1) ⟨by omega,fun m x hm hx=>?_⟩ (by omega)) ?_
    ·by_cases mL:m=k
     ·subst mL; rw [hy] at hx; cases hx; simpa using h7
     ·exact je m x (by omega) hx
    ·exact sZ
   ·have pk:∀ x,A[k]? = some x→¬ bu x c.az.ah<0:=fun x hx=>by rw [hy] at hx; cases hx; simpa using h7
    refine gO Tryz.func76 ?_;refine bh (by simpa using lN) ?_;refine gO Tryz.func76 ?_;refine a8 ⟨by omega,by simp; omega⟩ ?_;refine gO Tryz.func76 ?_;refine aE (e := .str y) (aX hy) rfl ?_;refine gO Tryz.func76 ?_;refine ai (fun h8=>?_) (fun h8=>?_)
    ·have vh:y=c.az.ah:=by simpa using h8
     refine gO Tryz.func76 ?_;refine I.back (IH (i+1) (by omega) (by omega)) ?_;rw [aF];have fO:kO A c.az.ah=A:=by rw [kO,if_pos (by rw [← vh]; exact List.mem_of_getElem? hy)]
     rw [fO];exact sZ
    ·have vh:A[k]? ≠ some c.az.ah:=fun e=>by rw [hy] at e; cases e; simp at h8
     obtain ⟨bL,EA⟩:=J6 hS hk je pk vh;rw [EA] at aF;refine gO Tryz.func76 ?_;refine a8 ⟨by simp; omega,by simp [DV.cells]⟩ ?_;refine gO Tryz.func76 ?_;refine I.loop (κ:=Nat × Text) [7,54,55,56,57,58,59,60,61,62,63,64,65,66] (fun x=>[(7,.d (.int .i64 x.1)),(3,.own 0 2)]) (fun x=>[(0,.arr 2 (9,1) ((A.take x.1++x.2::A.drop x.1).map .str))]) (fun x=>k≤x.1∧x.1≤A.length) (fun x=>x.1 - k) (A.length,c.az.ah) ⟨hk,Nat.le_refl _⟩ ?_ ?_
     ·(conv=>whnf);repeat (first | exact trivial | (refine sI ?_; conv=>whnf))
      refine And.intro (by simp) ?_;(conv=>whnf);repeat (first | exact trivial | (refine sI ?_; conv=>whnf))
      refine And.intro (congrArg (DV.int .i64) ((wrap64 (by simp <;> omega) (by simp <;> omega)).trans (by simp only [List.length_append,List.length_map,List.length_singleton]; omega))) ?_;exact sZ
     rintro ⟨n,y⟩ ⟨EB,fU⟩ xZ;simp only at EB fU;refine I.head af Tryz.func76 2000 ?_;(conv=>whnf);refine ai (fun h8=>?_) (fun h8=>?_)
     ·have x6:k<n:=by simpa using h8
      obtain ⟨z,hz⟩:=aL (l:=A) (k:=n - 1) (by omega);have nB:IntKind.i64.wrap ((n:Int) - 1)=((n - 1:Nat):Int):=by rw [wrap64 (by omega) (by omega)]; omega
      refine gO Tryz.func76 ?_;refine a8 ⟨by rw [nB]; omega,by rw [nB]; simp; omega⟩ ?_;refine gO Tryz.func76 ?_;refine aE (e := .str z) ⟨by omega,by rw [nB,Int.toNat_natCast,Int.toNat_natCast,List.getElem?_map,List.getElem?_append_left (by simp; omega),List.getElem?_take,if_pos (by omega),hz]; rfl⟩ rfl ?_;refine gO Tryz.func76 ?_;refine a8 ⟨by omega,by simp; omega⟩ ?_;refine gO Tryz.func76 ?_;refine aE (e := .str y) ⟨by omega,by simp [List.getElem?_append_right,List.length_take,Nat.min_eq_left fU]⟩ rfl ?_;refine gO Tryz.func76 ?_;refine gO Tryz.func76 ?_;refine I.back (xZ (n - 1,z) ⟨by simp only; omega,by simp only; omega⟩ (by simp only; omega)) ?_;(conv=>whnf);repeat (first | exact trivial | (refine sI ?_; conv=>whnf))
      refine And.intro (J9 hz (by omega)) ?_;exact sZ
     ·have x6 : n = k := by have : n ≤ k := by simpa using h8
                            omega
      subst x6;refine gO Tryz.func76 ?_;refine a8 ⟨by omega,by simp; omega⟩ ?_;refine gO Tryz.func76 ?_;refine aE (e := .str y) ⟨by omega,by simp [List.getElem?_append_right,List.length_take,Nat.min_eq_left fU]⟩ rfl ?_;refine gO Tryz.func76 ?_;refine gO Tryz.func76 ?_;refine I.back (IH (i+1) (by omega) (by omega)) ?_;rw [aF];(conv=>whnf);repeat (first | exact trivial | (refine sI ?_; conv=>whnf))
      refine And.intro (Et fU) ?_;exact sZ
  ·have xV:A.length≤k:=by simpa using h6
   have Kh:A[k]? = none:=List.getElem?_eq_none xV;obtain ⟨bL,EA⟩:=J6 hS hk je (fun x hx=>by rw [Kh] at hx; cases hx) (by rw [Kh]; simp);rw [EA] at aF;refine gO Tryz.func76 ?_;refine aQ ?_;refine gO Tryz.func76 ?_;refine aZ (by simpa using xV) ?_;refine gO Tryz.func76 ?_;refine aQ ?_;refine gO Tryz.func76 ?_;refine a8 ⟨by simp; omega,by simp [DV.cells]⟩ ?_;refine gO Tryz.func76 ?_;refine I.loop (κ:=Nat × Text) [7,54,55,56,57,58,59,60,61,62,63,64,65,66] (fun x=>[(7,.d (.int .i64 x.1)),(3,.own 0 2)]) (fun x=>[(0,.arr 2 (9,1) ((A.take x.1++x.2::A.drop x.1).map .str))]) (fun x=>k≤x.1∧x.1≤A.length) (fun x=>x.1 - k) (A.length,c.az.ah) ⟨hk,Nat.le_refl _⟩ ?_ ?_
   ·(conv=>whnf);repeat (first | exact trivial | (refine sI ?_; conv=>whnf))
    refine And.intro (by simp) ?_;(conv=>whnf);repeat (first | exact trivial | (refine sI ?_; conv=>whnf))
    refine And.intro (congrArg (DV.int .i64) ((wrap64 (by simp <;> omega) (by simp <;> omega)).trans (by simp only [List.length_append,List.length_map,List.length_singleton]; omega))) ?_;exact sZ
   rintro ⟨n,y⟩ ⟨EB,fU⟩ xZ;simp only at EB fU;refine I.head af Tryz.func76 2000 ?_;(conv=>whnf);refine ai (fun h8=>?_) (fun h8=>?_)
   ·have x6:k<n:=by simpa using h8
    obtain ⟨z,hz⟩:=aL (l:=A) (k:=n - 1) (by omega);have nB:IntKind.i64.wrap ((n:Int) - 1)=((n - 1:Nat):Int):=by rw [wrap64 (by omega) (by omega)]; omega
    refine gO Tryz.func76 ?_;refine a8 ⟨by rw [nB]; omega,by rw [nB]; simp; omega⟩ ?_;refine gO Tryz.func76 ?_;refine aE (e := .str z) ⟨by omega,by rw [nB,Int.toNat_natCast,Int.toNat_natCast,List.getElem?_map,List.getElem?_append_left (by simp; omega),List.getElem?_take,if_pos (by omega),hz]; rfl⟩ rfl ?_;refine gO Tryz.func76 ?_;refine a8 ⟨by omega,by simp; omega⟩ ?_;refine gO Tryz.func76 ?_;refine aE (e := .str y) ⟨by omega,by simp [List.getElem?_append_right,List.length_take,Nat.min_eq_left fU]⟩ rfl ?_;refine gO Tryz.func76 ?_;refine gO Tryz.func76 ?_;refine I.back (xZ (n - 1,z) ⟨by simp only; omega,by simp only; omega⟩ (by simp only; omega)) ?_;(conv=>whnf);repeat (first | exact trivial | (refine sI ?_; conv=>whnf))
    refine And.intro (J9 hz (by omega)) ?_;exact sZ
   ·have x6 : n = k := by have : n ≤ k := by simpa using h8
                          omega
    subst x6;refine gO Tryz.func76 ?_;refine a8 ⟨by omega,by simp; omega⟩ ?_;refine gO Tryz.func76 ?_;refine aE (e := .str y) ⟨by omega,by simp [List.getElem?_append_right,List.length_take,Nat.min_eq_left fU]⟩ rfl ?_;refine gO Tryz.func76 ?_;refine gO Tryz.func76 ?_;refine I.back (IH (i+1) (by omega) (by omega)) ?_;rw [aF];(conv=>whnf);repeat (first | exact trivial | (refine sI ?_; conv=>whnf))
    refine And.intro (Et fU) ?_;exact sZ
 ·have aC:l.length≤i:=by simpa using h5
  rw [List.take_of_length_le (by omega)] at hA;refine gO Tryz.func76 ?_;rw [hA]
end Go.Proofs.YtfmdaiojokniiaaGreatDoor.P
end
section
namespace Go.Proofs.YtfmdaiojokniiaaGreatDoor.P
open Go Go.aw
set_option maxRecDepth 100000
set_option maxHeartbeats 4000000
theorem Ki {z:aG} (h:dE z=true):Nm.valid z.ah=true:=by
 simp only [dE,lO,Bool.and_eq_true] at h;simp_all
theorem SF {l:List aS} {i k:Nat} {c d:aS} (hc:l[i]? = some c) (hd:l[k]? = some d) (hk:k<i) (h:d.host=c.host∧d.az.ah=c.az.ah∧d.bM<c.upto∧c.bM<d.upto):¬ l.Pairwise kR:=fun hp=>by
 obtain ⟨p1,e1⟩:=List.getElem?_eq_some_iff.1 hc;obtain ⟨p2,e2⟩:=List.getElem?_eq_some_iff.1 hd;have:=List.pairwise_iff_getElem.1 hp k i p2 p1 hk;rw [e1,e2] at this;exact this (by simp [aS.spot,h.1,h.2.1]) h.2.2
theorem SG {α:Type} {R:α→α→Prop} {l:List α} {i:Nat} {x:α} (h:(l.take i).Pairwise R) (hx:l[i]? = some x) (hn:∀ m y,m<i→l[m]? = some y→R y x):(l.take (i+1)).Pairwise R:=by
 rw [cI hx,List.pairwise_append];refine ⟨h,by simp,fun a ha b hb=>?_⟩;simp at hb;subst hb;obtain ⟨m,hm⟩:=List.getElem?_of_mem ha;rw [List.getElem?_take] at hm;split at hm
 ·rename_i ju; exact hn m a ju hm
 ·cases hm
theorem SH (h:bJ) (hf:h.Fits) (cR:h.aB.length≤1000000) (np:h.hints.length≤1000000):aq E 29 [h.enc] (· = .bool (dg h)):=by
 obtain ⟨aA,aB,anchor,hints,bS,fin⟩:=h;obtain ⟨fN,jg,xX,xY⟩:=hf;simp only at fN jg xX xY cR np;show aq E _ [DV.agg [.sl (aA.map Host.enc),.sl (aB.map aS.enc),.str anchor.name,.int .i64 anchor.type,.int .i64 anchor.cD,.sl (anchor.data.map Datum.enc),.sl (hints.map (.int .i64)),.int .i64 bS,.int .i64 fin]] _;refine eP Tryz.func29 ?_;repeat' (first | with_reducible refine ao (J4 aA fN) ?_ | with_reducible refine ay (J4 aA fN) ?_ | with_reducible refine ao (J5 anchor hints jg np) ?_ | with_reducible refine ay (J5 anchor hints jg np) ?_ | with_reducible refine cY ?_ | with_reducible refine cN ?_ | with_reducible refine ai (fun _=>?_) (fun _=>?_) | refine gA Tryz.func29 ?_ | refine gB ?_ | with_reducible rfl)
 all_goals try (congr 1; simp_all [dg]; done)
 all_goals try (congr 1; simp_all [dg]; omega; done)
 rename_i h1 h2 h3 h4 h5 h6 h7;have eM:1≤fin∧fin≤10000000∧0≤bS∧bS≤1000∧aB.length≤4000:=by simp at h3 h4 h5 h6 h7; omega
 have hw:(dW aA&&gJ anchor hints)=true:=by simp_all
 have bK:dg ⟨aA,aB,anchor,hints,bS,fin⟩=(aB.all (gK aA.length fin)&&decide (aB.Pairwise kR)&&decide (pK aB≤500)):=by
  simp only [dg,hw];simp [eM.1,eM.2.1,eM.2.2.1,eM.2.2.2.1,eM.2.2.2.2,Bool.and_assoc]
 rw [bK];clear bK h1 h2 h3 h4 h5 h6 h7 hw;refine gO Tryz.func29 ?_;refine I.loop (κ:=Nat) (rg 2 5++rg 45 86) (fun k=>[(3,.d (.int .i64 k)),(2,.d (.bool false))]) (fun _=>[]) (fun k=>k≤aB.length∧(aB.take k).all (gK aA.length fin)=true∧(aB.take k).Pairwise kR) (fun k=>aB.length - k) 0 ⟨Nat.zero_le _,rfl,by simp⟩ ?_ ?_
 ·exact sZ
 rintro i ⟨hi,aW,EC⟩ IH;refine I.head af Tryz.func29 2000 ?_;(conv=>whnf);refine ai (fun h5=>?_) (fun h5=>?_)
 ·have aj:i<aB.length:=by simpa using h5
  obtain ⟨c,hc⟩:=aL aj;have lE:=xY c (List.mem_of_getElem? hc);refine gO Tryz.func29 ?_;refine aE (e:=c.enc) (aX hc) rfl ?_;refine gO Tryz.func29 ?_;repeat' (first | with_reducible refine ao (I0 c.az lE) ?_ | with_reducible refine ay (I0 c.az lE) ?_ | with_reducible refine cY ?_ | with_reducible refine cN ?_ | with_reducible refine ai (fun _=>?_) (fun _=>?_) | refine gA Tryz.func29 ?_ | refine gB ?_ | with_reducible rfl)
  all_goals try (have bL:gK aA.length fin c=false:=by (simp_all [gK] <;> omega))
  all_goals try (rw [eX hc bL]; simp; done)
  rename_i h1 h2 h3 h4 h5 h6;have aO:gK aA.length fin c=true:=by simp_all [gK]
  refine gO Tryz.func29 ?_;refine I.loop (κ:=Nat) ([2,5,6]++rg 93 38) (fun k=>[(5,.d (.int .i64 k)),(2,.d (.bool false))]) (fun _=>[]) (fun k=>k≤i∧∀ m d,m<k→aB[m]? = some d→kR d c) (fun k=>i - k) 0 ⟨Nat.zero_le _,fun m y h=>by omega⟩ ?_ ?_
  ·exact sZ
  rintro k ⟨hk,aJ⟩ py;refine I.head af Tryz.func29 2000 ?_;(conv=>whnf);refine ai (fun h6=>?_) (fun h6=>?_)
  ·have lN:k<i:=by simpa using h6
   obtain ⟨d,hd⟩:=aL (l:=aB) (k:=k) (by omega);refine gO Tryz.func29 ?_;refine aE (e:=d.enc) (aX hd) rfl ?_;refine gO Tryz.func29 ?_;repeat' (first | with_reducible refine cY ?_ | with_reducible refine cN ?_ | with_reducible refine ai (fun _=>?_) (fun _=>?_) | refine gA Tryz.func29 ?_ | refine gB ?_ | with_reducible rfl)
   all_goals try
    (have mW := SF hc hd lN (by (simp_all <;> omega))
     simp [mW]; done)
   all_goals
    have vj:kR d c:=fun e=>by
     simp only [aS.spot,Prod.mk.injEq] at e;simp_all;try (intros; omega)
    refine gO Tryz.func29 ?_;refine I.back (py (k+1) ⟨by omega,fun m z hm hz=>?_⟩ (by omega)) ?_
    ·by_cases mL:m=k
     ·subst mL; rw [hd] at hz; cases hz; exact vj
     ·exact aJ m z (by omega) hz
    ·exact sZ
  ·have xV:i≤k:=by simpa using h6
   refine gO Tryz.func29 ?_;refine I.back (IH (i+1) ⟨by omega,fm aW hc aO,SG EC hc (fun m z hm hz=>aJ m z (by omega) hz)⟩ (by omega)) ?_;exact sZ
 ·have aC:aB.length≤i:=by simpa using h5
  rw [List.take_of_length_le aC] at aW EC;have SI:∀ c∈aB,c.az.ah.length≤1000:=fun c hc=>by
   have h1:=List.all_eq_true.1 aW c hc;simp only [gK,Bool.and_eq_true] at h1;have:=eJ (Ki h1.2);omega
  refine gO Tryz.func29 ?_
  with_reducible refine ao (SC aB cR SI) ?_
  refine gO Tryz.func29 ?_;simp only [aW,EC,decide_true,Bool.true_and,pK,J8,List.length_map]
  congr 2
  simp;omega
end Go.Proofs.YtfmdaiojokniiaaGreatDoor.P
end
