/- Several texts of mine, one behind the other. Conditions: as each says. -/
import Derived.Test.YtfmdaiojokniiaaGreatDoorW20
import Derived.Test.YtfmdaiojokniiaaGreatDoorW25
set_option linter.unusedVariables false
set_option linter.unusedSimpArgs false
section
namespace Go.Proofs.YtfmdaiojokniiaaGreatDoor.P
open Go Go.aw
set_option maxRecDepth 100000
set_option maxHeartbeats 4000000
def aX.spot (c:aX):cL:=(c.host,c.ay.ai)
def aX.span (c:aX):Span:=⟨c.bQ,c.upto⟩
def mv (aB:Nat) (fin:Int) (c:aX):Bool:=decide (0≤c.host)&&decide (c.host<aB)&&decide (0≤c.bQ)&&decide (c.bQ<c.upto)&&decide (c.upto≤fin)&&ep c.ay
def qa (d c:aX):Prop:=d.spot=c.spot→¬ (d.bQ<c.upto∧c.bQ<d.upto)
instance (d c : aX) : Decidable (qa d c) := by unfold qa; infer_instance
def uf (l:List aX):Nat:=(dP [] (l.map (·.ay.ai))).length
def ez (h:bN):Bool:=decide (1≤h.fin)&&decide (h.fin≤10000000)&&decide (0≤h.bM)&&decide (h.bM≤1000)&&decide (h.aG.length≤4000)&&(fG h.aB&&lR h.anchor h.hints) &&
 h.aG.all (mv h.aB.length h.fin)&&decide (h.aG.Pairwise qa)&&decide (uf h.aG≤500)
structure bN.Fits (h:bN):Prop where
 aB:∀ x∈h.aB,x.name.length≤maxLen
 anchor:h.anchor.Fits
 hints:h.hints.length≤maxLen
 cW:∀ c∈h.aG,c.ay.Fits
structure RD where
 p:cL
 l:List Span
 blk:Nat
 cap:Nat
def RD.slice (d:RD):Value := .slice (some ⟨d.blk,0,none⟩) d.l.length d.cap
def RD.dv (d:RD):DV × DV:=(cL.en d.p,.raw d.slice)
def RD.ghost (d:RD):bc := .row ⟨d.blk,d.cap,(169,2),d.l.map Span.enc⟩
structure kg (l:List aX) (ds:List RD):Prop where
 nodup:(ds.map (·.p)).Nodup
 each:∀ d∈ds,d.l=(l.filter (fun c=>decide (c.spot=d.p))).map aX.span∧d.l≠[]
 all:∀ c∈l,∃ d∈ds,d.p=c.spot
theorem kg.nil:kg [] []:=⟨by simp,fun d hd=>by simp at hd,fun c hc=>by simp at hc⟩
def Clear (l:List Span):Prop:=l.Pairwise fun a b=>¬ (a.bQ<b.upto∧b.bQ<a.upto)
theorem IX {l m:List Span} (h:l.Perm m):Clear l↔Clear m:=h.pairwise_iff fun {x y} h1 h2=>h1 ⟨h2.2,h2.1⟩
theorem QQ {l:List aX} {ds:List RD} (h:kg l ds):l.Pairwise qa↔∀ d∈ds,Clear d.l:=by
 have each:∀ d∈ds,(Clear d.l↔l.Pairwise (fun a b=>a.spot=d.p→b.spot=d.p→¬ (a.bQ<b.upto∧b.bQ<a.upto))):=fun d hd=>by
  rw [(h.each d hd).1,Clear,List.pairwise_map,List.pairwise_filter];simp only [decide_eq_true_eq];rfl
 constructor
 ·intro hp d hd;rw [each d hd];exact hp.imp fun {a b} sQ h1 h2=>sQ (h1.trans h2.symm)
 ·intro hc;rw [List.pairwise_iff_getElem];intro i j hi hj dp hs;obtain ⟨d,hd,e⟩:=h.all l[i] (List.getElem_mem hi);have:=(each d hd).1 (hc d hd);rw [List.pairwise_iff_getElem] at this;exact this i j hi hj dp e.symm (hs.symm.trans e.symm)
theorem QR {l:List Span} (hw:∀ a∈l,a.bQ<a.upto) (h:∀ (m:Nat) (a b:Span),l[m]? = some a→l[m+1]? = some b→a.upto≤b.bQ):Clear l:=by
 have main:∀ (n i:Nat) (a b:Span),l[i]? = some a→l[i+1+n]? = some b→a.upto≤b.bQ:=by
  intro n
  induction n with
  |zero=>intro i a b ha hb; exact h i a b ha hb
  |succ n ih =>
   intro i a b ha hb;obtain ⟨c,hc⟩:∃ c,l[i+1+n]? = some c:=aU (by have:=aP hb; omega);have h1:=ih i a c ha hc;have h2:=h (i+1+n) c b hc hb;have h3:=hw c (List.mem_of_getElem? hc);omega
 unfold Clear;rw [List.pairwise_iff_getElem];intro i j hi hj dp h2;have:=main (j - i - 1) i l[i] l[j] (by simp) (by rw [show i+1+(j - i - 1)=j by omega]; simp);omega
theorem QS {l:List Span} (hw:∀ a∈l,a.bQ<a.upto) (hs:l.Pairwise (fun a b=>a.bQ≤b.bQ)) {i:Nat} {a b:Span} (h0:0<i) (ha:l[i - 1]? = some a) (hb:l[i]? = some b) (h:b.bQ<a.upto):¬ Clear l:=fun hc=>by
 obtain ⟨p1,e1⟩:=List.getElem?_eq_some_iff.1 ha;obtain ⟨p2,e2⟩:=List.getElem?_eq_some_iff.1 hb;have h1:=List.pairwise_iff_getElem.1 hc (i - 1) i p1 p2 (by omega);have h2:=List.pairwise_iff_getElem.1 hs (i - 1) i p1 p2 (by omega);have h3:=hw b (List.mem_of_getElem? hb);rw [e1,e2] at h1 h2;exact h1 ⟨by omega,h⟩
theorem QT {l:List aX} {p:cL} {ds:List RD} (h:kg l ds) (hn:∀ d∈ds,d.p≠p):l.filter (fun c=>decide (c.spot=p))=[]:=by
 rw [List.filter_eq_nil_iff];intro c hc hp;obtain ⟨d,hd,e⟩:=h.all c hc;exact hn d hd (e.trans (by simpa using hp))
theorem kg.found {l:List aX} {p1 p2:List RD} {d:RD} {c:aX} (h:kg l (p1++d::p2)) (hp:d.p=c.spot) (blk cap:Nat):kg (l++[c]) (p1++⟨c.spot,d.l++[c.span],blk,cap⟩::p2):=by
 have eS:=h.nodup;simp only [List.map_append,List.map_cons] at eS;have aE:∀ e,e∈p1∨e∈p2→e.p≠c.spot:=fun e he q=>by
  rw [List.nodup_append] at eS;obtain ⟨h1,h2,h3⟩:=eS;rw [List.nodup_cons] at h2;rcases he with he | he
  ·exact h3 e.p (List.mem_map_of_mem he) d.p (List.mem_cons_self ..) (q.trans hp.symm)
  ·exact h2.1 (List.mem_map.2 ⟨e,he,q.trans hp.symm⟩)
 have hold:∀ e,e∈p1∨e∈p2→e.l=((l++[c]).filter (fun c=>decide (c.spot=e.p))).map aX.span∧e.l≠[]:=fun e he=>by
  have h1:=h.each e (by rcases he with he | he <;> simp [he]);have h2:¬ c.spot=e.p:=fun q=>aE e he q.symm;refine ⟨?_,h1.2⟩;rw [List.filter_append,List.filter_cons_of_neg (by simpa using h2),List.filter_nil,List.append_nil];exact h1.1
 refine ⟨?_,fun e he=>?_,fun x hx=>?_⟩
 ·simp only [List.map_append,List.map_cons];rw [← hp];exact eS
 ·rcases List.mem_append.1 he with he | he
  ·exact hold e (.inl he)
  ·rcases List.mem_cons.1 he with rfl | he
   ·have h1:=h.each d (by simp);refine ⟨?_,by simp⟩;show d.l++[c.span]=_;rw [List.filter_append,List.filter_cons_of_pos (by simp),List.filter_nil,List.map_append,h1.1,hp];rfl
   ·exact hold e (.inr he)
 ·rcases List.mem_append.1 hx with hx | hx
  ·obtain ⟨e,he,q⟩:=h.all x hx;rcases List.mem_append.1 he with he | he
   ·exact ⟨e,by simp [he],q⟩
   ·rcases List.mem_cons.1 he with rfl | he
    ·exact ⟨⟨c.spot,e.l++[c.span],blk,cap⟩,by simp,hp.symm.trans q⟩
    ·exact ⟨e,by simp [he],q⟩
  ·simp at hx;subst hx;exact ⟨⟨x.spot,d.l++[x.span],blk,cap⟩,by simp,rfl⟩
theorem kg.new {l:List aX} {ds:List RD} {c:aX} (h:kg l ds) (hn:∀ d∈ds,d.p≠c.spot) (blk cap:Nat):kg (l++[c]) (ds++[⟨c.spot,[c.span],blk,cap⟩]):=by
 refine ⟨?_,fun e he=>?_,fun x hx=>?_⟩
 ·rw [List.map_append,List.nodup_append];refine ⟨h.nodup,by simp,fun a ha b hb q=>?_⟩;simp at hb;subst hb; subst q;obtain ⟨d,hd,q⟩:=List.mem_map.1 ha;exact hn d hd q
 ·rcases List.mem_append.1 he with he | he
  ·have h1:=h.each e he;have h2:¬ c.spot=e.p:=fun q=>hn e he q.symm;refine ⟨?_,h1.2⟩;rw [List.filter_append,List.filter_cons_of_neg (by simpa using h2),List.filter_nil,List.append_nil];exact h1.1
  ·simp at he;subst he;refine ⟨?_,by simp⟩;show [c.span]=_;rw [List.filter_append,List.filter_cons_of_pos (by simp),List.filter_nil,QT h hn];rfl
 ·rcases List.mem_append.1 hx with hx | hx
  ·obtain ⟨e,he,q⟩:=h.all x hx;exact ⟨e,by simp [he],q⟩
  ·simp at hx;subst hx;exact ⟨⟨x.spot,[x.span],blk,cap⟩,by simp,rfl⟩
theorem kg.len {l:List aX} {ds:List RD} (h:kg l ds) {d:RD} (hd:d∈ds):d.l.length≤l.length:=by
 rw [(h.each d hd).1,List.length_map];exact List.length_filter_le _ _
theorem QU {ds:List RD}:∀ {i:Nat} {d:RD},ds[i]? = some d→(ds.map (·.p)).Nodup→findD (cL.en d.p) (ds.map RD.dv)=some (.raw d.slice)∧eb (cL.en d.p) (ds.map RD.dv)=some i∧bI (cL.en d.p) (.raw d.slice) (ds.map RD.dv)=ds.map RD.dv:=by
 induction ds with
 |nil=>intro i d h; simp at h
 |cons e ds ih =>
  intro i d h hn;simp only [List.map_cons,List.nodup_cons] at hn;cases i with
  |zero =>
   simp at h;subst h;simp [findD,eb,bI,RD.dv,nG]
  |succ i =>
   have h':ds[i]? = some d:=by simpa using h
   have aE:¬ d.p=e.p:=fun q=>hn.1 (List.mem_map.2 ⟨d,List.mem_of_getElem? h',q⟩);obtain ⟨h1,h2,h3⟩:=ih h' hn.2;simp only [List.map_cons,findD,eb,bI,RD.dv,nG,aE,decide_false,Bool.false_eq_true,if_false];exact ⟨h1,by rw [h2]; rfl,by rw [h3]⟩
theorem IY {p:cL} {v:DV}:∀ {ds:List RD},(∀ d∈ds,d.p≠p)→findD (cL.en p) (ds.map RD.dv)=none∧eb (cL.en p) (ds.map RD.dv)=none∧bI (cL.en p) v (ds.map RD.dv)=ds.map RD.dv++[(cL.en p,v)]
 | [],_=>by simp [findD,eb,bI]
 |e::ds,h=>by
  have aE:¬ p=e.p:=fun q=>h e (List.mem_cons_self ..) q.symm;obtain ⟨h1,h2,h3⟩:=IY (p:=p) (v:=v) (ds:=ds) (fun d hd=>h d (List.mem_cons_of_mem _ hd));simp only [List.map_cons,findD,eb,bI,RD.dv,nG,aE,decide_false,Bool.false_eq_true,if_false];exact ⟨h1,by rw [h2]; rfl,by rw [h3]; rfl⟩
theorem IZ {ds:List RD}:∀ p∈ds.map RD.dv,cS E.T (TK.struct [(0,3),(1,9)]) p.1:=fun p hp=>by
 obtain ⟨d,-,rfl⟩:=List.mem_map.1 hp;exact zB d.p
theorem I0 (h:bN) (hf:h.Fits) (dx:h.aG.length≤1000000):au E 40 [h.enc] (· = .bool (ez h)):=by
 obtain ⟨aB,aG,anchor,hints,bM,fin⟩:=h;obtain ⟨gY,iG,Dw,I1⟩:=hf;simp only at gY iG Dw I1 dx;show au E _ [DV.agg [.sl (aB.map Host.enc),.sl (aG.map aX.enc),.str anchor.name,.int .i64 anchor.type,.int .i64 anchor.cV,.sl (anchor.data.map Datum.enc),.sl (hints.map (.int .i64)),.int .i64 bM,.int .i64 fin]] _;refine eP Tryz.func40 ?_;repeat' (first | with_reducible refine ar (IK aB anchor hints gY iG Dw) ?_ | with_reducible refine aR (IK aB anchor hints gY iG Dw) ?_ | with_reducible refine cY ?_ | with_reducible refine cN ?_ | with_reducible refine aj (fun _=>?_) (fun _=>?_) | refine gA Tryz.func40 ?_ | refine gB ?_ | with_reducible rfl)
 all_goals try (congr 1; simp_all [ez]; done)
 all_goals try (congr 1; simp_all [ez]; omega; done)
 ·rename_i h6;have hw:(fG aB&&lR anchor hints)=false:=by
   cases hq:(fG aB&&lR anchor hints)
   ·rfl
   ·rw [hq] at h6; cases h6
  simp only [ez,hw];simp
 rename_i h1 h2 h3 h4 h5 h6;have hw:(fG aB&&lR anchor hints)=true:=by
  cases hq:(fG aB&&lR anchor hints)
  ·rw [hq] at h6; cases h6
  ·rfl
 have gj:1≤fin∧fin≤10000000∧0≤bM∧bM≤1000∧aG.length≤4000:=by simp at h1 h2 h3 h4 h5; omega
 have bH:ez ⟨aB,aG,anchor,hints,bM,fin⟩=(aG.all (mv aB.length fin)&&decide (aG.Pairwise qa)&&decide (uf aG≤500)):=by
  simp only [ez,hw];simp [gj.1,gj.2.1,gj.2.2.1,gj.2.2.2.1,gj.2.2.2.2,Bool.and_assoc]
 rw [bH];clear bH h1 h2 h3 h4 h5 h6 hw;refine gO Tryz.func40 ?_;refine gO Tryz.func40 ?_;refine I.CI (κ:=Nat × List RD) [2,5,6,47,48,49,50,51,52,53,54,55,56,57,58,59,60,61,62,63,64,65,66,67,68,69,70,71,72,73,74,75,76,77,78,79,80,81,82,83,84,85,86,87,88,89,90,91,92,93,94,95,96,97,98,99,100,101,102,103] (fun x=>[(47,.d (.int .i64 x.1)),(2,.d (.bool false)),(3,.map 1)]) (fun x=>[(1,.map (x.2.map RD.dv))]) (fun x=>x.2.map RD.ghost) (fun x=>x.1≤aG.length∧(aG.take x.1).all (mv aB.length fin)=true∧kg (aG.take x.1) x.2) (fun x=>aG.length - x.1) (0,[]) ⟨Nat.zero_le _,rfl,kg.nil⟩ rfl ?_ ?_
 ·(conv=>whnf);repeat (first | exact trivial | (refine sI ?_; conv=>whnf))
  refine And.intro rfl ?_;exact sZ
 rintro ⟨k,ds⟩ ⟨hk,a7,mw⟩ IH;simp only at hk a7 mw;refine I.head ag Tryz.func40 2000 ?_;(conv=>whnf);refine aj (fun h5=>?_) (fun h5=>?_)
 ·have ah:k<aG.length:=by simpa using h5
  obtain ⟨c,hc⟩:=aU ah;have ni:=I1 c (List.mem_of_getElem? hc);refine gO Tryz.func40 ?_;refine aT (e:=c.enc) (bu hc) rfl ?_;refine gO Tryz.func40 ?_;repeat' (first | with_reducible refine ar (rQ c.ay ni) ?_ | with_reducible refine aR (rQ c.ay ni) ?_ | with_reducible refine cY ?_ | with_reducible refine cN ?_ | with_reducible refine aj (fun _=>?_) (fun _=>?_) | refine gA Tryz.func40 ?_ | refine gB ?_ | with_reducible rfl)
  all_goals try (have cj:mv aB.length fin c=false:=by (simp_all [mv] <;> omega))
  all_goals try (rw [gG hc cj]; simp; done)
  rename_i h1 h2 h3 h4 h5 h6;have aJ:mv aB.length fin c=true:=by simp_all [mv]
  have zq:cL.en c.spot = .agg [.int .i64 c.host,.str c.ay.ai]:=rfl;refine gO Tryz.func40 ?_;by_cases hex:∃ d∈ds,d.p=c.spot
  ·obtain ⟨d,hd,jc⟩:=hex;obtain ⟨p1,p2,rfl⟩:=List.append_of_mem hd;have hi:(p1++d::p2)[p1.length]? = some d:=by simp
   obtain ⟨e1,e2,e3⟩:=QU hi mw.nodup;rw [jc] at e1 e2 e3;rw [zq] at e1 e2 e3;have tX:=mw.len hd;have jW:∀ d':RD,(p1++d::p2).set p1.length d'=p1++d'::p2:=fun d'=>by simp
   refine I.mapEntry ag (.raw (.slice none 0 0)) (.slice none 0 0) (.raw d.slice) p1.length ((p1++d::p2).map RD.dv) rfl rfl (fun _ _ => .raw _ rfl) ?_;(conv=>whnf);refine And.intro ⟨zB c.spot,IZ⟩ (And.intro (fun w=>by kernel_rfl) (And.intro ⟨by rw [e1]; rfl,by rw [e2]; rfl,e3⟩ ?_));(conv=>whnf);refine I.run ag Tryz.func40 1 ?_;(conv=>whnf);refine I.borrow 93 (cK:=⟨d.blk,d.cap,(169,2),d.l.map Span.enc⟩) (n:=d.l.length) (g1:=p1.map RD.ghost) (g2:=p2.map RD.ghost) (by show (p1++d::p2).map RD.ghost=_; simp [RD.ghost]) rfl (by simp) ?_;refine gO Tryz.func40 ?_;refine bp ⟨by simp at tX ⊢; omega,by simp [DV.cells]⟩ ?_;refine gO Tryz.func40 ?_;refine I.cO 101 4 rfl (Nat.zero_le _) rfl (fun mi=>by simp at mi) (fun blk cap=>?_);refine I.entryStore ag p1.length (k0:=cL.en c.spot) (x0 := .raw d.slice) rfl rfl ?_;(conv=>whnf);refine And.intro (by simp [RD.dv,jc]) ?_;(conv=>whnf);refine And.intro rfl ?_;(conv=>whnf);refine gO Tryz.func40 ?_;refine I.CJ (rows:=(p1++⟨c.spot,d.l++[c.span],blk,cap⟩::p2).map RD.ghost) ?_ ?_
   ·have e:(p1++(⟨c.spot,d.l++[c.span],blk,cap⟩:RD)::p2).map RD.ghost=p1.map RD.ghost ++ .row ⟨blk,cap,(169,2),d.l.map Span.enc++[DV.agg [.int .i64 c.bQ,.int .i64 c.upto]]⟩::p2.map RD.ghost:=by simp [RD.ghost,aX.span]
    rw [e];exact List.perm_middle.symm
   refine I.back (IH (k+1,p1++⟨c.spot,d.l++[c.span],blk,cap⟩::p2) ⟨by simp only; omega,iD a7 hc aJ,by simp only; rw [dm hc]; exact mw.found jc blk cap⟩ (by simp only; omega)) ?_;(conv=>whnf);repeat (first | exact trivial | (refine sI ?_; conv=>whnf))
   refine And.intro (by simp [RD.dv,RD.slice,aX.span]) ?_;exact sZ
  ·have cj:∀ d∈ds,d.p≠c.spot:=fun d hd e=>hex ⟨d,hd,e⟩;obtain ⟨e1,e2,e3⟩:=IY (v := .raw (.slice none 0 0)) cj;rw [zq] at e1 e2 e3;refine I.mapEntry ag (.raw (.slice none 0 0)) (.slice none 0 0) (.raw (.slice none 0 0)) ds.length (ds.map RD.dv++[(cL.en c.spot,.raw (.slice none 0 0))]) rfl rfl (fun _ _ => .raw _ rfl) ?_;(conv=>whnf);refine And.intro ⟨zB c.spot,IZ⟩ (And.intro (fun w=>by kernel_rfl) (And.intro ⟨by rw [e1]; rfl,by rw [e2]; simp,e3⟩ ?_));(conv=>whnf);refine I.run ag Tryz.func40 1 ?_;(conv=>whnf);refine I.Ol 93 (169,2) (by decide) rfl ?_;refine gO Tryz.func40 ?_;refine bp ⟨by simp,by simp [DV.cells]⟩ ?_;refine gO Tryz.func40 ?_;refine I.cO 101 4 rfl (Nat.zero_le _) rfl (fun mi=>by simp at mi) (fun blk cap=>?_);refine I.entryStore ag ds.length (k0:=cL.en c.spot) (x0 := .raw (.slice none 0 0)) rfl rfl ?_;(conv=>whnf);refine And.intro (by simp) ?_;(conv=>whnf);refine And.intro rfl ?_;(conv=>whnf);refine gO Tryz.func40 ?_;refine I.CJ (rows:=(ds++[(⟨c.spot,[c.span],blk,cap⟩:RD)]).map RD.ghost) ?_ ?_
   ·have e:(ds++[(⟨c.spot,[c.span],blk,cap⟩:RD)]).map RD.ghost=ds.map RD.ghost++[.row ⟨blk,cap,(169,2),[]++[DV.agg [.int .i64 c.bQ,.int .i64 c.upto]]⟩]:=by simp [RD.ghost,aX.span]
    rw [e];exact (List.perm_append_singleton _ _).symm
   refine I.back (IH (k+1,ds++[⟨c.spot,[c.span],blk,cap⟩]) ⟨by simp only; omega,iD a7 hc aJ,by simp only; rw [dm hc]; exact mw.new cj blk cap⟩ (by simp only; omega)) ?_;(conv=>whnf);repeat (first | exact trivial | (refine sI ?_; conv=>whnf))
   refine And.intro (by simp [RD.dv,RD.slice,aX.span]) ?_;exact sZ
 ·have aK:aG.length≤k:=by simpa using h5
  rw [List.take_of_length_le aK] at a7 mw;have hw:∀ d∈ds,∀ a∈d.l,a.bQ<a.upto:=fun d hd a ha=>by
   rw [(mw.each d hd).1] at ha;obtain ⟨x,hx,rfl⟩:=List.mem_map.1 ha;have:=List.all_eq_true.1 a7 x (List.mem_filter.1 hx).1;simp only [mv,Bool.and_eq_true,decide_eq_true_eq] at this;exact this.1.1.2
  have zF:=QQ mw;rw [a7,Bool.true_and];refine gO Tryz.func40 ?_;refine I.range ag rfl rfl rfl rfl (aM rfl) rfl (Nat.zero_le _) (fun it pG jP pO=>?_);obtain ⟨bm,r,en,ck,since,seen,es⟩:=it;simp only at pG jP pO;subst pG; subst jP;refine gO Tryz.func40 ?_;refine I.CI (κ:=List Nat × List RD) ([3,43,104]++[2,8,9,106,107,108,109,110,111,112,113,114,115,116,117,118,119,120,121,122,123,124,125,126,127,128,129]) (fun _=>[(2,.d (.bool false))]) (fun _=>[]) (fun x => .iter ⟨bm,r,en,ck,since,x.1,ds.map RD.dv⟩::x.2.map RD.ghost) (fun x=>(∀ j d,ds[j]? = some d→j ∉ x.1→d∈x.2)∧(∀ d∈x.2,d∈ds)∧∀ j d,ds[j]? = some d→j∈x.1→Clear d.l) (fun x=>x.2.length) ([],ds) ⟨fun j d hd _=>List.mem_of_getElem? hd,fun _ h=>h,fun j d _ h=>by simp at h⟩ rfl ?_ ?_
  ·exact sZ
  rintro ⟨seen,pd⟩ ⟨oI,me,Dx⟩ QV;simp only at oI me Dx;refine I.head ag Tryz.func40 2000 ?_;(conv=>whnf);refine I.next (it:=⟨bm,r,en,ck,since,seen,ds.map RD.dv⟩) (g1:=[]) (g2:=pd.map RD.ghost) rfl rfl pO rfl (aM rfl) (fun QW=>?_) (fun j kk y hj iS=>?_)
  ·refine gO Tryz.func40 ?_;refine aN ?_;refine gO Tryz.func40 ?_;have dS:aG.Pairwise qa:=zF.2 fun d hd=>by
    obtain ⟨j,hj⟩:=List.getElem?_of_mem hd;have hl:=aP hj;exact Dx j d hj (QW j (by simpa using hl))
   refine iT (QA aG dx) ?_;rintro u b ⟨cX,rfl,rfl⟩;refine gO Tryz.func40 ?_;simp only [dS,decide_true,Bool.true_and,uf,List.length_map]
   congr 2
   simp;omega
  ·obtain ⟨d,zG,e⟩:∃ d,ds[j]? = some d∧RD.dv d=(kk,y):=by simpa using hj
   cases e;have hd:=List.mem_of_getElem? zG;obtain ⟨p1,p2,rfl⟩:=List.append_of_mem (oI j d zG iS);refine gO Tryz.func40 ?_;refine aY ?_;refine gO Tryz.func40 ?_;refine I.entry (it:=⟨bm,r,en,ck,since,seen++[j],ds.map RD.dv⟩) (g1:=[]) (g2:=(p1++d::p2).map RD.ghost) (pre:=seen) (j:=j) rfl rfl rfl rfl hj (aM rfl) ?_;(conv=>whnf);refine I.run ag Tryz.func40 2 ?_;(conv=>whnf);refine I.borrow 8 (cK:=⟨d.blk,d.cap,(169,2),d.l.map Span.enc⟩) (n:=d.l.length) (g1 := .iter ⟨bm,r,en,ck,since,seen++[j],ds.map RD.dv⟩::p1.map RD.ghost) (g2:=p2.map RD.ghost) (by show (_::(p1++d::p2).map RD.ghost)=_; simp [RD.ghost]) rfl (by simp) ?_;refine gO Tryz.func40 ?_;have QX:d.l≠[]:=(mw.each d hd).2;have tX:d.l.length≤aG.length:=mw.len hd;refine iT (QP d.l QX (by omega)) ?_;rintro u b ⟨rfl,l',lS,w7,rfl⟩;have qC:∀ a∈l',a.bQ<a.upto:=fun a ha=>hw d hd a (lS.mem_iff.1 ha);have jq:l'.length≤aG.length:=by rw [lS.length_eq]; exact tX
   refine gO Tryz.func40 ?_;refine I.loop (κ:=Nat) ([2,9]++rg 112 18) (fun i=>[(9,.d (.int .i64 i)),(2,.d (.bool false))]) (fun _=>[]) (fun i=>1≤i∧i≤max 1 l'.length∧∀ (m:Nat) (a b:Span),m+1<i→l'[m]? = some a→l'[m+1]? = some b→a.upto≤b.bQ) (fun i=>l'.length - i) 1 ⟨Nat.le_refl _,by omega,fun m a b h=>by omega⟩ ?_ ?_
   ·exact sZ
   rintro i ⟨sO,pQ,I2⟩ QY;refine I.head ag Tryz.func40 2000 ?_;(conv=>whnf);refine aj (fun h6=>?_) (fun h6=>?_)
   ·have ah:i<l'.length:=by simpa using h6
    obtain ⟨x,hx⟩:=aU ah;obtain ⟨q,hq⟩:∃ q,l'[i - 1]? = some q:=aU (by omega);refine gO Tryz.func40 ?_;refine I.bU ag bV 2000 (by kernel_rfl) ?_;(conv=>whnf);refine bp ⟨by omega,by simp; omega⟩ ?_;refine gD ?_;refine aT (e:=x.enc) (bu hx) rfl ?_;refine gD ?_;have Dy:IntKind.i64.wrap ((i:Int) - 1)=((i - 1:Nat):Int):=by rw [wrap64 (by omega) (by omega)]; omega
    refine bp ⟨by rw [Dy]; omega,by rw [Dy]; simp; omega⟩ ?_;refine gD ?_;refine aT (e:=q.enc) (by rw [Dy,Int.toNat_natCast]; exact bu hq) rfl ?_;refine gD ?_;refine gO Tryz.func40 ?_;refine aj (fun h7=>?_) (fun h7=>?_)
    ·refine gO Tryz.func40 ?_;have QZ:¬ aG.Pairwise qa:=fun hp=>QS qC w7 (by omega) hq hx (by simpa using h7) ((IX lS).2 (zF.1 hp d hd));simp [QZ]
    ·refine gO Tryz.func40 ?_;refine I.back (QY (i+1) ⟨by omega,by omega,fun m a b hm ha hb=>?_⟩ (by omega)) ?_
     ·by_cases lC:m+1=i
      ·have e1:m=i - 1:=by omega
       subst e1;rw [hq] at ha;rw [lC,hx] at hb;cases ha; cases hb
       simpa using h7
      ·exact I2 m a b (by omega) ha hb
     ·exact sZ
   ·have VI:l'.length≤i:=by simpa using h6
    have dS:Clear d.l:=(IX lS).1 (QR qC fun m a b ha hb=>I2 m a b (by have:=aP hb; omega) ha hb);refine gO Tryz.func40 ?_;refine I.CJ (rows := .iter ⟨bm,r,en,ck,since,seen++[j],ds.map RD.dv⟩::(p1++p2).map RD.ghost) (List.Perm.of_eq (by simp)) ?_;have lF:=mw.nodup;refine I.back (QV (seen++[j],p1++p2) ⟨fun j' d' ef dC=>?_,fun d' ef=>me d' (by simp at ef ⊢; rcases ef with h | h <;> simp [h]),fun j' d' ef dC=>?_⟩ (by simp)) ?_
    ·simp only at ef dC ⊢;rw [List.mem_append,List.mem_singleton,not_or] at dC;have h1:=oI j' d' ef dC.1;have aE:d'≠d:=fun e=>by
      subst e;have q1:(ds.map (·.p))[j']? = some d'.p:=by simp [ef]
      have q2:(ds.map (·.p))[j]? = some d'.p:=by simp [zG]
      exact dC.2 (IP lF q1 q2)
     rcases List.mem_append.1 h1 with h1 | h1
     ·exact List.mem_append_left _ h1
     ·rcases List.mem_cons.1 h1 with h1 | h1
      ·exact absurd h1 aE
      ·exact List.mem_append_right _ h1
    ·simp only at dC;rw [List.mem_append,List.mem_singleton] at dC;rcases dC with dC | rfl
     ·exact Dx j' d' ef dC
     ·rw [zG] at ef;cases ef;exact dS
    ·exact sZ
end Go.Proofs.YtfmdaiojokniiaaGreatDoor.P
end
section
namespace Go.Proofs.YtfmdaiojokniiaaGreatDoor.P
open Go Go.aw
set_option maxRecDepth 100000
set_option maxHeartbeats 4000000
end Go.Proofs.YtfmdaiojokniiaaGreatDoor.P
end
section
namespace Go.Proofs.YtfmdaiojokniiaaGreatDoor.P
open Go Go.aw
set_option maxRecDepth 100000
set_option maxHeartbeats 4000000
theorem I3 {z:aF} (h:ep z=true):Nm.valid z.ai=true:=by
 simp only [ep,ny,Bool.and_eq_true] at h;simp_all
end Go.Proofs.YtfmdaiojokniiaaGreatDoor.P
end
