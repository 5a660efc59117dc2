/- Lemmas of mine. Conditions: as stated. -/
import Derived.Test.YtfmdaiojokniiaaGreatDoorU26
import Derived.Test.YtfmdaiojokniiaaGreatDoorU27
set_option linter.unusedVariables false
set_option linter.unusedSimpArgs false
section
namespace Go.Proofs.YtfmdaiojokniiaaGreatDoor.P
open Go Go.ay
set_option maxRecDepth 100000
set_option maxHeartbeats 4000000
def oC(kind:Int)(d:Datum):Signed:=⟨⟨[120],kind,9,[d]⟩,[]⟩
def gL(n:Int):aX:=⟨[120],[oC 2 ⟨[98],0,0⟩,oC 4 ⟨[],n,0⟩]⟩
def db:bZ:=⟨[⟨[97],1,0⟩,⟨[98],2,0⟩],[⟨1,0,100,gL 1⟩],⟨[46],6,0,[⟨[],1,1⟩]⟩,[1],2,100⟩
def fI:fm:=⟨db,[⟨10,⟨[⟨1,gL 2⟩]⟩⟩],[⟨1,10,gL 2⟩],[]⟩
def ya:dR:=⟨1,[oC 4 ⟨[],1,0⟩],[]⟩
theorem O'(kind:Int)(d:Datum):aq E 92 [.int .i64 kind,d.enc] (· = (oC kind d).enc):=by
 obtain⟨x,y,z⟩:=d;refine aq.norm ?_;show aq E _ [.int .i64 kind,DV.agg [.str x,.int .i64 y,.int .i64 z]] _;refine eP Tryz.func92 ?_;rfl
theorem aaI(n:Int):aq E 91 [.int .i64 n] (· = (gL n).enc):=by
 have c1:=O' 2 ⟨[98],0,0⟩;have c2:=O' 4 ⟨[],n,0⟩;refine eP Tryz.func91 ?_;refine ao (c1) ?_;refine gO Tryz.func91 ?_;refine ao (c2) ?_;refine gO Tryz.func91 ?_;rfl
def yb(h:bZ):List AV:=[.d (.sl (h.aC.map Host.enc)),.d (.sl (h.aE.map aY.enc)),.d (.str h.anchor.name),.d (.int .i64 h.anchor.type),.d (.int .i64 h.anchor.cy),.d (.sl (h.anchor.data.map Datum.enc)),.d (.sl (h.hints.map (.int .i64))),.d (.int .i64 h.bN),.d (.int .i64 h.fin)]
theorem aaJ:ar E 33 [] [] (fun a b=>a=.aD [.agg (yb db++[.d (.sl (fI.steps.map Step.enc)),.own 3 0,.d (.sl [])]),.d ya.enc]/\b=[.cells (yb db++[.d (.sl (fI.steps.map Step.enc)),.own 3 0,.d .aH]),.cells [.d (.int .i64 1),.d (.sl (ya.ae.map Signed.enc)),.d (.str [])],.cells (yb db),.arr 0 (63,4) (fI.eh.map Claim.enc)]):=by
 have c1:∀ n,aq E 91 [.int .i64 n] (· = .agg [.str [120],.sl ((gL n).ae.map Signed.enc)]):=aaI;refine ar.norm ?_;refine ar.run ab (fn:=Tryz.f33) Tryz.func33 (body:=Tryz.f33.body.getD .skip) rfl (by decide) 2000 rfl ?_;(conv=>whnf);refine ao (c1 1) ?_;refine gO Tryz.func33 ?_;refine I.bJ ab bG 2000 (by kernel_rfl) ?_;(conv=>whnf);refine au (c1 2) ?_;refine gD ?_;refine au (c1 2) ?_;(conv=>whnf);refine bM.run ab 1 ?_;(conv=>whnf);refine bM.at rfl ?_;(conv=>whnf);refine kJ.own ab ?_;refine gD ?_;refine au (c1 1) ?_;refine gD ?_;refine aV ⟨by decide,by decide,by decide,by decide⟩ ?_;refine gD ?_;refine And.intro (by kernel_rfl) ?_;(conv=>whnf);refine gO Tryz.func33 ?_;exact⟨rfl,rfl⟩
def jk:bZ:={ db with aE:=[⟨1,0,10,gL 1⟩,⟨1,10,100,gL 2⟩] }
theorem Ie(k:Int)(d:Datum)(hd:d.text.length<=maxLen):(oC k d).set.Fits:=⟨by simp[oC,maxLen],by simp[oC],fun x hx=>by simp[oC]at hx;subst hx;exact hd⟩
theorem AU(n:Int):(gL n).Fits:=⟨by simp[gL,maxLen],fun s hs=>by
 simp[gL]at hs;rcases hs with rfl|rfl
 ·exact Ie _ _ (by simp[maxLen])
 ·exact Ie _ _ (by simp[maxLen])⟩
theorem Pc:db.anchor.Fits:=⟨by simp[db,maxLen],by simp[db],fun x hx=>by simp[db]at hx;subst hx;simp[maxLen]⟩
theorem Ig{cs:List aY}{d:Int}(h:∀ c∈cs,∃ n,c.aw=gL n):({ db with aE:=cs,bN:=d }:bZ).Fits:=⟨fun x hx=>by
 simp[db]at hx;rcases hx with rfl|rfl<;>simp[maxLen],Pc,by simp[db,maxLen],fun c hc=>by
 obtain⟨n,e⟩:=h c hc;rw[e]
 exact AU n⟩
theorem Pd:Steps.Fits fI.steps:=⟨fun s hs=>by
 simp[fI]at hs;subst hs
 exact⟨fun p hp=>by simp at hp;subst hp;exact AU 2,by simp⟩,by simp[fI]⟩
theorem Dy(l:List Claim)(b:Bool)(hl:ov.Fits l)(hb:(fq db fI.steps&&mI db l)=b):ar E 20 [.arr 0 (63,4) (l.map Claim.enc)] [.agg (yb db++[.d (.sl (fI.steps.map Step.enc)),.own 0 0,.d (.sl [])])] (fun x h=>x=.d (.bool b)/\h=[.arr 0 (63,4) (l.map Claim.enc)]):=by
 have c1:=Xi ⟨db,fI.steps,l,[]⟩ (Ig (cs:=db.aE) fun c hc=>⟨1,by simp[db]at hc;subst hc;rfl⟩) (by simp[db]) Pd hl.b (.inl rfl);simp only[hb]at c1;exact aq.aaK c1 rfl rfl rfl rfl
theorem Ih:(fq db fI.steps&&mI db fI.eh)=true:=by decide +kernel
theorem Ii:ov.Fits fI.eh:=⟨by simp[fI,maxLen],fun c hc=>by simp[fI]at hc;subst hc;exact AU 2⟩
theorem Pe:aq E 22 [db.enc,.sl (fI.steps.map Step.enc)] (· = .aD [jk.enc,.int .i64 0]):=by
 have c1:=Db db fI.steps (Ig (cs:=db.aE) fun c hc=>⟨1,by simp[db]at hc;subst hc;rfl⟩) (by decide) Pd
 rwa [show fQ db fI.steps=jk by decide +kernel,show applyN db fI.steps=0 by decide +kernel]at c1
theorem aaM:ar E 15 [.arr 0 (63,4) (fI.eh.map Claim.enc)] [.agg (yb db++[.d (.sl (fI.steps.map Step.enc)),.own 0 0,.d (.sl [])])] (fun x h=>x=.aD [.d jk.enc,.d (.int .i64 0)]/\h=[.arr 0 (63,4) (fI.eh.map Claim.enc)]):=by
 have c1:=Dy fI.eh true Ii Ih;have c2:=Pe;apply ar.kl
 case hk=>rfl
 refine ar.run ab (fn:=Tryz.f15) Tryz.func15 (body:=Tryz.f15.body.getD .skip) rfl (by decide) 2000 rfl ?_;(conv=>whnf);refine aO c1 ?_;refine gO Tryz.func15 ?_;refine aR ?_;refine gO Tryz.func15 ?_;refine ao c2 ?_;refine gO Tryz.func15 ?_;exact⟨rfl,rfl⟩
theorem aaN(c:Claim):ar E 37 [.cells [.d .aH],.cells [.d (.bool false)]] [.d c.enc,.ptr 0 0,.ptr 1 0] (fun x h=>x=.aD []/\h=[.cells [.d (.sl [Step.enc ⟨c.time,⟨[⟨c.host,c.aw⟩]⟩⟩])],.cells [.d (.bool false)]]):=by
 obtain⟨ch,ct,⟨za,zs⟩⟩:=c;show ar E _ _ [.d (DV.agg [.int .i64 ch,.int .i64 ct,.str za,.sl (zs.map Signed.enc)]),_,_] _;apply ar.kl
 case hk=>rfl
 refine ar.run ab (fn:=Tryz.f37) Tryz.func37 (body:=Tryz.f37.body.getD .skip) rfl (by decide) 2000 rfl ?_;(conv=>whnf);refine I.pK 0 0 (57,2) (by decide) rfl rfl ?_;refine gO F37 ?_;refine I.bJ ab bG 2000 (by kernel_rfl) ?_;(conv=>whnf);refine aU (by decide) ?_;refine gD ?_;refine gO F37 ?_;refine bj ?_;refine gO F37 ?_;refine aV ⟨by simp,by simp[DV.cells]⟩ ?_;refine gO F37 ?_;refine aV (of_decide_eq_true rfl) ?_;refine gO F37 ?_;refine I.bJ ab bG 2000 (by kernel_rfl) ?_;(conv=>whnf);refine aB (e := .agg [.int .i64 ct,.aH]) ⟨of_decide_eq_true rfl,rfl⟩ rfl ?_;(conv=>whnf);refine bM.run ab 1 ?_;(conv=>whnf);refine bM.run ab 1 ?_;(conv=>whnf);refine bM.run ab 1 ?_;(conv=>whnf);refine bM.run ab 1 ?_;(conv=>whnf);refine bM.run ab 1 ?_;(conv=>whnf);refine bM.run ab 1 ?_;(conv=>whnf);refine bM.at rfl ?_;(conv=>whnf);refine kJ.op (aaL ab rfl rfl rfl rfl rfl rfl rfl rfl rfl rfl (aS rfl) (aS rfl) (by simp[DV.cells]) (by simp)) ?_;refine gD ?_;refine aB (e := .agg [.int .i64 ct,.aH]) ⟨of_decide_eq_true rfl,rfl⟩ rfl ?_;refine gD ?_;refine And.intro (by kernel_rfl) ?_;(conv=>whnf);refine gO F37 ?_;refine aW rfl ?_;refine gO F37 ?_;refine aW rfl ?_;refine gO F37 ?_;refine aB (e := .agg [.int .i64 ct,.sl [.agg [.int .i64 ch,.str za,.sl (zs.map Signed.enc)]]]) ⟨of_decide_eq_true rfl,rfl⟩ rfl ?_;(conv=>whnf);refine I.run ab F37 4 ?_;(conv=>whnf);refine I.freeze 3 ?_;(conv=>whnf);refine gO F37 ?_;exact⟨rfl,rfl⟩
theorem aaO:ar E 13 [.arr 0 (63,4) (fI.eh.map Claim.enc)] [.agg (yb db++[.d (.sl (fI.steps.map Step.enc)),.own 0 0,.d (.sl [])])] (fun x h=>x=.aD [.d jk.enc,.d (.int .i64 0)]/\h=[.arr 0 (63,4) (fI.eh.map Claim.enc)]):=by
 have c1:=Dy fI.eh true Ii Ih;have c2:=Pe;apply ar.kl
 case hk=>rfl
 refine ar.run ab (fn:=Tryz.f13) Tryz.func13 (body:=Tryz.f13.body.getD .skip) rfl (by decide) 2000 rfl ?_;(conv=>whnf);refine aO c1 ?_;refine gO F13 ?_;refine aR ?_;refine gO F13 ?_;refine I.mg ?_;refine I.run ab F13 2000 ?_;(conv=>whnf);refine aU rfl ?_;refine gO F13 ?_;refine aV (of_decide_eq_true rfl) ?_;refine gO F13 ?_;refine aB (e:=Claim.enc ⟨1,10,gL 2⟩) ⟨of_decide_eq_true rfl,rfl⟩ rfl ?_;refine gO F13 ?_;refine aO (aaN ⟨1,10,gL 2⟩) ?_;refine gO F13 ?_;refine I.again ?_;refine I.run ab F13 2000 ?_;(conv=>whnf);refine aW rfl ?_;refine gO F13 ?_;refine aR ?_;refine gO F13 ?_;refine ao c2 ?_;refine gO F13 ?_;exact⟨rfl,rfl⟩
def iK(gs:List (Int × List bc))(c:Claim):List (Int × List bc):=match gs.getLast? with
 |none=>gs++[(c.time,[⟨c.host,c.aw⟩])]
 |some g=>if g.1=c.time then gs.dropLast++[(g.1,g.2++[⟨c.host,c.aw⟩])]else gs++[(c.time,[⟨c.host,c.aw⟩])]
def qc(l:List Claim):List (Int × List bc):=l.foldl iK []
def lg(l:List Claim):List Step:=(qc l).map fun g=>⟨g.1,⟨g.2⟩⟩
theorem Ij(l:List Claim)(c:Claim):qc (l++[c])=iK (qc l) c:=by simp[qc]
theorem aaP{gs:List (Int × List bc)}{c:Claim}{n:Nat}(h:gs.length<=n/\∀ g∈gs,g.2.length<=n):(iK gs c).length<=n+1/\∀ g∈iK gs c,g.2.length<=n+1:=by
 have eb:(gs++[(c.time,[(⟨c.host,c.aw⟩:bc)])]).length<=n+1/\∀ g∈gs++[(c.time,[(⟨c.host,c.aw⟩:bc)])],g.2.length<=n+1:=by
  refine⟨by simp;exact h.1,fun g hg=>?_⟩;rcases List.mem_append.1 hg with hg|hg
  ·have:=h.2 g hg;omega
  ·rw[List.mem_singleton.1 hg];simp
 unfold iK;split
 ·exact eb
 ·rename_i g hg;split
  ·have hm:=List.mem_of_getLast? hg;refine⟨by simp;have:=h.1;omega,fun y hy=>?_⟩;rcases List.mem_append.1 hy with hy|hy
   ·have:=h.2 y (List.dropLast_subset _ hy);omega
   ·rw[List.mem_singleton.1 hy];have:=h.2 g hm;simp;exact this
  ·exact eb
theorem aaQ(l:List Claim):(qc l).length<=l.length/\∀ g∈qc l,g.2.length<=l.length:=by
 suffices h:∀ (l:List Claim) (gs:List (Int × List bc)) (n:Nat),(gs.length<=n/\∀ g∈gs,g.2.length<=n)->(l.foldl iK gs).length<=n+l.length/\∀ g∈l.foldl iK gs,g.2.length<=n+l.length by
  have:=h l [] 0 ⟨Nat.le_refl _,fun g hg=>by cases hg⟩
  rwa [Nat.zero_add]at this
 intro l
 induction l with
 |nil=>intro gs n h;exact h
 |cons c l ih =>
  intro gs n h;have:=ih (iK gs c) (n+1) (aaP h);rw[List.foldl_cons,List.length_cons,show n+(l.length+1)=n+1+l.length by omega];exact this
theorem Ik{gs:List (Int × List bc)}{c:Claim}(h:∀ g,gs.getLast?=some g->g.1≠c.time):iK gs c=gs++[(c.time,[⟨c.host,c.aw⟩])]:=by
 unfold iK;split
 ·rfl
 ·rename_i g hg;rw[if_neg (h g hg)]
theorem Pf{gs:List (Int × List bc)}{g:Int × List bc}{c:Claim}(h:g.1=c.time):iK (gs++[g]) c=gs++[(g.1,g.2++[⟨c.host,c.aw⟩])]:=by
 unfold iK;simp[h]
structure GD where
 t:Int
 ps:List bc
 blk:Nat
 cap:Nat
def GD.slice(d:GD):Value := .slice (some ⟨d.blk,0,none⟩) d.ps.length d.cap
def GD.cC(d:GD):DV := .agg [.int .i64 d.t,.raw d.slice]
def GD.row(d:GD):Row:=⟨d.blk,d.cap,(61,3),d.ps.map bc.enc⟩
def GD.rO(d:GD):Int × List bc:=(d.t,d.ps)
theorem aaR(e:fm)(c1:aq E 20 [e.enc] (· = .bool (kj e)))(hn:e.eh.length<=400)(c2:aq E 22 [e.before.enc,.sl ((lg e.eh).map Step.enc)] (· = .aD [(fQ e.before (lg e.eh)).enc,.int .i64 (applyN e.before (lg e.eh))])) :
  aq E 13 [e.enc] (· = if kj e then .aD [(fQ e.before (lg e.eh)).enc,.int .i64 (applyN e.before (lg e.eh))]else .aD [tp.enc,.int .i64 1]):=by
 cases hv:kj e
 ·rw[hv]at c1;rw[if_neg (by decide)];clear c2 hv hn;obtain⟨⟨aC,aE,anchor,hints,bN,fin⟩,sl,cl,tl⟩:=e;show aq E _ [DV.agg [.sl (aC.map Host.enc),.sl (aE.map aY.enc),.str anchor.name,.int .i64 anchor.type,.int .i64 anchor.cy,.sl (anchor.data.map Datum.enc),.sl (hints.map (.int .i64)),.int .i64 bN,.int .i64 fin,.sl (sl.map Step.enc),.sl (cl.map Claim.enc),.sl (tl.map cP.enc)]] _;refine aq.norm ?_;refine eP F13 ?_;repeat' (first|with_reducible(first|refine ao (c1) ?_|refine au (c1) ?_|refine cY ?_|refine cN ?_|refine ai (fun _=>?_) (fun _=>?_))|refine gA F13 ?_|refine gB ?_|with_reducible rfl)
  rfl
 rw[if_pos rfl];rw[hv]at c1;obtain⟨⟨aC,aE,anchor,hints,bN,fin⟩,sl,cl,tl⟩:=e;simp only at c2 hn ⊢;show aq E _ [DV.agg [.sl (aC.map Host.enc),.sl (aE.map aY.enc),.str anchor.name,.int .i64 anchor.type,.int .i64 anchor.cy,.sl (anchor.data.map Datum.enc),.sl (hints.map (.int .i64)),.int .i64 bN,.int .i64 fin,.sl (sl.map Step.enc),.sl (cl.map Claim.enc),.sl (tl.map cP.enc)]] _;refine eP F13 ?_;repeat' (first|with_reducible(first|refine ao (c1) ?_|refine au (c1) ?_|refine cY ?_|refine cN ?_|refine ai (fun _=>?_) (fun _=>?_))|refine gA F13 ?_|refine gB ?_|with_reducible rfl)
 refine gO F13 ?_;refine I.pK 2 0 (57,2) (by decide) rfl rfl ?_;refine I.Ck (κ:=Nat × List GD) [8,17,18,19,20,21,22,23,24] (fun x=>[(17,.d (.int .i64 x.1))]) (fun x=>[(2,.cells [.own 4 1]),(3,.cells [.d (.bool false)]),(4,.arr 1 (57,2) (x.2.map GD.cC))]) (fun x=>x.2.reverse.map fun d => .row d.row) (fun x=>x.1<=cl.length/\x.2.map GD.rO=qc (cl.take x.1)) (fun x=>cl.length-x.1) (0,[]) ⟨Nat.zero_le _,rfl⟩ rfl ?_ ?_
 ·(conv=>whnf);repeat (first|exact trivial|(rw[fy];conv=>whnf)|(refine sI ?_;conv=>whnf))
  refine And.intro rfl ?_;(conv=>whnf);repeat (first|exact trivial|(rw[fy];conv=>whnf)|(refine sI ?_;conv=>whnf))
 generalize hQ:(ua fun x:DV=>_)=Q;rintro⟨k,ds⟩ ⟨hk,gj⟩ IH;simp only at hk gj;refine I.head ab F13 2000 ?_;(conv=>whnf);refine ai (fun h5=>?_) (fun h5=>?_)
 ·have ah:k<cl.length:=by simpa using h5
  obtain⟨c,hc⟩:=aG ah;refine gO F13 ?_;refine aB (e:=c.enc) (aN hc) rfl ?_;(conv=>whnf);repeat ((fail_if_success (first|(refine I.oa (fn:=Tryz.f37) rfl rfl (aS rfl) (ml (aS rfl)) Tryz.func37 rfl (by decide) ?_)|fail));(refine I.run ab F13 1 ?_);(conv=>whnf))
  refine I.oa (fn:=Tryz.f37) rfl rfl (aS rfl) (ml (aS rfl)) Tryz.func37 rfl (by decide) ?_;(conv=>whnf);conv =>
   arg 3
   try whnf
   try conv=>arg 1;whnf
   try conv=>arg 2;whnf
   try conv=>arg 3;whnf
   try conv=>arg 3;arg 2;whnf
   try conv=>arg 4;whnf
   try conv=>arg 4;arg 1;whnf
   try conv=>arg 4;arg 2;whnf
   try conv=>arg 4;arg 3;whnf
   try conv=>arg 4;arg 4;whnf
   try conv=>arg 4;arg 4;arg 2;whnf
   try conv=>arg 4;arg 4;arg 1;arg 1;whnf
   try conv=>arg 4;arg 4;arg 1;arg 1;arg 2;whnf
   try conv=>arg 4;arg 4;arg 1;arg 1;arg 3;whnf
   try conv=>arg 4;arg 4;arg 1;arg 1;arg 3;arg 2;whnf
   try conv=>arg 4;arg 5;whnf
   try conv=>arg 4;arg 5;arg 2;whnf
   try conv=>arg 4;arg 6;whnf
  refine gO F37 ?_;have zR:=aaQ (cl.take k);rw[<- gj]at zR;have hk4:(cl.take k).length<=400:=by rw[List.length_take];omega
  have hkk:(cl.take k).length<=k:=by rw[List.length_take];omega
  have iE:ds.length<=k:=by have:=zR.1;rw[List.length_map]at this;omega
  have lp:∀ d∈ds,d.ps.length<=k:=fun d hd=>by have:=zR.2 d.rO (List.mem_map.2 ⟨d,hd,rfl⟩);exact Nat.le_trans this hkk
  rcases List.eq_nil_or_concat ds with rfl|⟨dD,d,rfl⟩
  ·simp only[List.map_nil,List.length_nil];refine I.bJ ab bG 2000 (by kernel_rfl) ?_;(conv=>whnf);refine bj ?_;refine gD ?_;refine gO F37 ?_;refine bj ?_;refine gO F37 ?_;refine aV ⟨by simp,by simp[DV.cells]⟩ ?_;refine gO F37 ?_;have hN:((([]++[DV.agg [.int .i64 c.time,.aH]]).length:Nat):Int)=((0:Nat):Int)+1:=by simp<;>omega
   have fG:IntKind.i64.wrap (((([]++[DV.agg [.int .i64 c.time,.aH]]).length:Nat):Int)-1)=((0:Nat):Int):=by rw[hN,wrap64 (by omega) (by omega)];omega
   have dF:([]++[DV.agg [.int .i64 c.time,.aH]])[0]?=some (DV.agg [.int .i64 c.time,.aH]):=by simp
   refine aV ⟨by rw[fG];omega,by rw[fG,hN];omega⟩ ?_;refine gO F37 ?_;refine I.HN bG 11 2 rfl (by kernel_rfl) (by kernel_rfl) rfl rfl rfl (by kernel_rfl) (by simp only[List.length_cons,List.length_replicate];omega) (61,3) ([(⟨c.host,c.aw⟩:bc).enc]) ((([]:List GD)).reverse.map fun d => .row d.row) ?_;refine bR.o ab ?_;(conv=>whnf);refine bR.o ab ?_;(conv=>whnf);refine bR.o ab ?_;(conv=>whnf);refine bR.o ab ?_;(conv=>whnf);refine bR.op rfl (.d .aH) (xY ab (by(conv=>whnf);refine aB (e:=DV.agg [.int .i64 c.time,.aH]) ⟨by omega,by first|exact dF|(rw[fG];exact dF)⟩ rfl ⟨rfl,rfl⟩)) (xY ab (by(conv=>whnf);refine aB (e:=DV.agg [.int .i64 c.time,.aH]) ⟨by omega,by first|exact dF|(rw[fG];exact dF)⟩ rfl ⟨rfl,rfl⟩)) ?_;(conv=>whnf);refine bR.o ab ?_;(conv=>whnf);refine bR.o ab ?_;(conv=>whnf);refine bR.o ab ?_;(conv=>whnf);refine bR.o ab ?_;(conv=>whnf);refine bR.o ab ?_;(conv=>whnf);refine bR.o ab ?_;(conv=>whnf);refine bR.nil (And.intro ?_ ?_)
   ·intro c0 cx a q0 q1 q2 q3 q4 q5;refine N4 q1 q3 q4 q5 q2 (HO ab ?_) (by simp) (by rw[q0];exact Nat.zero_le _);(conv=>whnf);refine aV ⟨by simp,by simp[DV.cells]⟩ ?_;(conv=>whnf);exact⟨rfl,rfl⟩
   refine bR.from ?_;(conv=>whnf);refine bR.o ab ?_;(conv=>whnf);refine bR.o ab ?_;(conv=>whnf);refine bR.nil fun blk cap=>?_;refine I.last ?_;(conv=>whnf);refine tB.of ab rfl ?_;(conv=>whnf);refine aB (e:=DV.agg [.int .i64 c.time,.aH]) ⟨by omega,by rw[fG];exact dF⟩ rfl ?_;(conv=>whnf);refine And.intro rfl ?_;(conv=>whnf);refine gO F37 ?_;refine aR ?_;refine gO F37 ?_;refine aW (by simp<;>omega) ?_;refine gO F37 ?_;have dM:∀ y:DV,(([]++[DV.agg [.int .i64 c.time,.aH]]).set (0) y)[0]?=some y:=fun y=>List.getElem?_set_self (aQ dF);refine aB (e:=DV.agg [.int .i64 c.time,.raw (.slice (some ⟨blk,0,none⟩) ([(⟨c.host,c.aw⟩:bc).enc]).length cap)]) ⟨by omega,by rw[fG];exact dM _⟩ rfl ?_;refine gO F37 ?_;refine I.HP (show gW _ _ _ true from wu (j:=6) (b:=false) (g:=false) rfl rfl rfl rfl) (HM ab rfl rfl rfl rfl (aS rfl)) ?_;(conv=>whnf);refine gO F37 ?_;(conv=>whnf);repeat ((fail_if_success (first|(refine I.kM ab F37 rfl rfl rfl (L:=[]) rfl ?_)|fail));(refine I.run ab F37 1 ?_);(conv=>whnf))
   refine I.kM ab F37 rfl rfl rfl (L:=[]) rfl ?_;(conv=>whnf);conv =>
    arg 3
    try whnf
    try conv=>arg 1;whnf
    try conv=>arg 2;whnf
    try conv=>arg 3;whnf
    try conv=>arg 3;arg 2;whnf
    try conv=>arg 4;whnf
    try conv=>arg 4;arg 1;whnf
    try conv=>arg 4;arg 2;whnf
    try conv=>arg 4;arg 3;whnf
    try conv=>arg 4;arg 4;whnf
    try conv=>arg 4;arg 4;arg 2;whnf
    try conv=>arg 4;arg 4;arg 1;arg 1;whnf
    try conv=>arg 4;arg 4;arg 1;arg 1;arg 2;whnf
    try conv=>arg 4;arg 4;arg 1;arg 1;arg 3;whnf
    try conv=>arg 4;arg 4;arg 1;arg 1;arg 3;arg 2;whnf
    try conv=>arg 4;arg 5;whnf
    try conv=>arg 4;arg 5;arg 2;whnf
    try conv=>arg 4;arg 6;whnf
   refine gO F13 ?_;refine I.uR (rows:=((([]:List GD))++[(⟨c.time,[(⟨c.host,c.aw⟩:bc)],blk,cap⟩:GD)]).reverse.map fun d:GD=>bk.row d.row) (List.Perm.of_eq (by simp[GD.row])) ?_;refine I.back (IH (k+1,(([]:List GD))++[(⟨c.time,[(⟨c.host,c.aw⟩:bc)],blk,cap⟩:GD)]) ⟨ah,by simp only;rw[cK hc,Ij,<- gj];rw[Ik (fun g hg=>by simp at hg)];simp[GD.rO]⟩ (by simp only;omega)) ?_;(conv=>whnf);repeat (first|exact trivial|(rw[fy];conv=>whnf)|(refine sI ?_;conv=>whnf))
   refine And.intro (congrArg DV.bool (decide_eq_false (by simp<;>omega))) ?_;(conv=>whnf);repeat (first|exact trivial|(rw[fy];conv=>whnf)|(refine sI ?_;conv=>whnf))
   refine And.intro (by rw[fG];simp[GD.cC,GD.slice]) ?_;(conv=>whnf);repeat (first|exact trivial|(rw[fy];conv=>whnf)|(refine sI ?_;conv=>whnf))
  ·simp only[List.concat_eq_append]at gj IH iE lp ⊢;have ke:=lp d (by simp);have ab3:dD.length+1<=k:=by simpa using iE
   have Pg:((dD++[d]).map GD.cC)[dD.length]?=some d.cC:=by simp
   have hlen:(((dD++[d]).map GD.cC).length:Int)=dD.length+1:=by simp
   have hw:IntKind.i64.wrap (((((dD++[d]).map GD.cC).length:Nat):Int)-1)=(dD.length:Int):=by rw[hlen,wrap64 (by omega) (by omega)];omega
   refine I.bJ ab bG 2000 (by kernel_rfl) ?_;(conv=>whnf);refine aW (by rw[hlen];simp;omega) ?_;refine gD ?_;refine aV ⟨by rw[hw];omega,by rw[hw,hlen];omega⟩ ?_;refine gD ?_;refine aB (e:=d.cC) ⟨by omega,by rw[hw];exact Pg⟩ rfl ?_;refine gD ?_;refine gO F37 ?_;by_cases ht:d.t=c.time
   ·refine aW (by simpa using ht) ?_;refine gO F37 ?_;have hN:((((dD++[d]).map GD.cC).length:Nat):Int)=((dD.length:Nat):Int)+1:=by simp<;>omega
    have fG:IntKind.i64.wrap (((((dD++[d]).map GD.cC).length:Nat):Int)-1)=((dD.length:Nat):Int):=by rw[hN,wrap64 (by omega) (by omega)];omega
    have dF:((dD++[d]).map GD.cC)[dD.length]?=some (d.cC):=by simp
    refine aV ⟨by rw[fG];omega,by rw[fG,hN];omega⟩ ?_;refine gO F37 ?_;refine I.uR (rows := .row d.row::dD.reverse.map fun d => .row d.row) (List.Perm.of_eq (by show List.map _ (List.reverse (dD++[d]))=_;simp)) ?_;refine I.HN bG 11 2 rfl (by kernel_rfl) (by kernel_rfl) rfl rfl rfl (by kernel_rfl) (by simp only[List.length_cons,List.length_replicate];omega) (61,3) (d.ps.map bc.enc++[(⟨c.host,c.aw⟩:bc).enc]) (dD.reverse.map fun d => .row d.row) ?_;refine bR.o ab ?_;(conv=>whnf);refine bR.o ab ?_;(conv=>whnf);refine bR.o ab ?_;(conv=>whnf);refine bR.o ab ?_;(conv=>whnf);refine bR.op rfl (.d (.raw d.slice)) (xY ab (by(conv=>whnf);refine aB (e:=d.cC) ⟨by omega,by first|exact dF|(rw[fG];exact dF)⟩ rfl ⟨rfl,rfl⟩)) (xY ab (by(conv=>whnf);refine aB (e:=d.cC) ⟨by omega,by first|exact dF|(rw[fG];exact dF)⟩ rfl ⟨rfl,rfl⟩)) ?_;(conv=>whnf);refine bR.o ab ?_;(conv=>whnf);refine bR.o ab ?_;(conv=>whnf);refine bR.o ab ?_;(conv=>whnf);refine bR.o ab ?_;(conv=>whnf);refine bR.o ab ?_;(conv=>whnf);refine bR.o ab ?_;(conv=>whnf);refine bR.nil (And.intro ?_ ?_)
    ·intro c0 cx a q0 q1 q2 q3 q4 q5;refine Yq (bz:=d.row) q1 q3 q4 q5 q2 (d:=37) (by simp only[GD.row,List.length_map];rfl) (HO ab ?_) (by simp) (by rw[q0];exact Nat.zero_le _);(conv=>whnf);refine aV ⟨by simp[GD.row];omega,by simp[DV.cells]⟩ ?_;(conv=>whnf);exact⟨rfl,rfl⟩
    refine bR.from ?_;(conv=>whnf);refine bR.o ab ?_;(conv=>whnf);refine bR.o ab ?_;(conv=>whnf);refine bR.nil fun blk cap=>?_;refine I.last ?_;(conv=>whnf);refine tB.of ab rfl ?_;(conv=>whnf);refine aB (e:=d.cC) ⟨by omega,by rw[fG];exact dF⟩ rfl ?_;(conv=>whnf);refine And.intro rfl ?_;(conv=>whnf);refine gO F37 ?_;refine aR ?_;refine gO F37 ?_;refine aW (by simp<;>omega) ?_;refine gO F37 ?_;have dM:∀ y:DV,(((dD++[d]).map GD.cC).set (dD.length) y)[dD.length]?=some y:=fun y=>List.getElem?_set_self (aQ dF);refine aB (e:=DV.agg [.int .i64 d.t,.raw (.slice (some ⟨blk,0,none⟩) (d.ps.map bc.enc++[(⟨c.host,c.aw⟩:bc).enc]).length cap)]) ⟨by omega,by rw[fG];exact dM _⟩ rfl ?_;refine gO F37 ?_;refine I.HP (show gW _ _ _ true from wu (j:=6) (b:=false) (g:=false) rfl rfl rfl rfl) (HM ab rfl rfl rfl rfl (aS rfl)) ?_;(conv=>whnf);refine gO F37 ?_;(conv=>whnf);repeat ((fail_if_success (first|(refine I.kM ab F37 rfl rfl rfl (L:=[]) rfl ?_)|fail));(refine I.run ab F37 1 ?_);(conv=>whnf))
    refine I.kM ab F37 rfl rfl rfl (L:=[]) rfl ?_;(conv=>whnf);conv =>
     arg 3
     try whnf
     try conv=>arg 1;whnf
     try conv=>arg 2;whnf
     try conv=>arg 3;whnf
     try conv=>arg 3;arg 2;whnf
     try conv=>arg 4;whnf
     try conv=>arg 4;arg 1;whnf
     try conv=>arg 4;arg 2;whnf
     try conv=>arg 4;arg 3;whnf
     try conv=>arg 4;arg 4;whnf
     try conv=>arg 4;arg 4;arg 2;whnf
     try conv=>arg 4;arg 4;arg 1;arg 1;whnf
     try conv=>arg 4;arg 4;arg 1;arg 1;arg 2;whnf
     try conv=>arg 4;arg 4;arg 1;arg 1;arg 3;whnf
     try conv=>arg 4;arg 4;arg 1;arg 1;arg 3;arg 2;whnf
     try conv=>arg 4;arg 5;whnf
     try conv=>arg 4;arg 5;arg 2;whnf
     try conv=>arg 4;arg 6;whnf
    refine gO F13 ?_;refine I.uR (rows:=(dD++[(⟨d.t,d.ps++[(⟨c.host,c.aw⟩:bc)],blk,cap⟩:GD)]).reverse.map fun d:GD=>bk.row d.row) (List.Perm.of_eq (by simp[GD.row])) ?_;refine I.back (IH (k+1,dD++[(⟨d.t,d.ps++[(⟨c.host,c.aw⟩:bc)],blk,cap⟩:GD)]) ⟨ah,by simp only;rw[cK hc,Ij,<- gj];rw[show(dD++[d]).map GD.rO=dD.map GD.rO++[d.rO] by simp,Pf (show d.rO.1=c.time from ht)];simp[GD.rO]⟩ (by simp only;omega)) ?_;(conv=>whnf);repeat (first|exact trivial|(rw[fy];conv=>whnf)|(refine sI ?_;conv=>whnf))
    refine And.intro (congrArg DV.bool (decide_eq_false (by simp<;>omega))) ?_;(conv=>whnf);repeat (first|exact trivial|(rw[fy];conv=>whnf)|(refine sI ?_;conv=>whnf))
    refine And.intro (by rw[fG];simp[GD.cC,GD.slice]) ?_;(conv=>whnf);repeat (first|exact trivial|(rw[fy];conv=>whnf)|(refine sI ?_;conv=>whnf))
   refine aU (by simpa using ht) ?_;refine gO F37 ?_;refine aV ⟨by simp;omega,by simp[DV.cells]⟩ ?_;refine gO F37 ?_;have hN:((((dD++[d]).map GD.cC++[DV.agg [.int .i64 c.time,.aH]]).length:Nat):Int)=((dD.length+1:Nat):Int)+1:=by simp<;>omega
   have fG:IntKind.i64.wrap (((((dD++[d]).map GD.cC++[DV.agg [.int .i64 c.time,.aH]]).length:Nat):Int)-1)=((dD.length+1:Nat):Int):=by rw[hN,wrap64 (by omega) (by omega)];omega
   have dF:((dD++[d]).map GD.cC++[DV.agg [.int .i64 c.time,.aH]])[dD.length+1]?=some (DV.agg [.int .i64 c.time,.aH]):=by simp
   refine aV ⟨by rw[fG];omega,by rw[fG,hN];omega⟩ ?_;refine gO F37 ?_;refine I.HN bG 11 2 rfl (by kernel_rfl) (by kernel_rfl) rfl rfl rfl (by kernel_rfl) (by simp only[List.length_cons,List.length_replicate];omega) (61,3) ([(⟨c.host,c.aw⟩:bc).enc]) ((dD++[d]).reverse.map fun d => .row d.row) ?_;refine bR.o ab ?_;(conv=>whnf);refine bR.o ab ?_;(conv=>whnf);refine bR.o ab ?_;(conv=>whnf);refine bR.o ab ?_;(conv=>whnf);refine bR.op rfl (.d .aH) (xY ab (by(conv=>whnf);refine aB (e:=DV.agg [.int .i64 c.time,.aH]) ⟨by omega,by first|exact dF|(rw[fG];exact dF)⟩ rfl ⟨rfl,rfl⟩)) (xY ab (by(conv=>whnf);refine aB (e:=DV.agg [.int .i64 c.time,.aH]) ⟨by omega,by first|exact dF|(rw[fG];exact dF)⟩ rfl ⟨rfl,rfl⟩)) ?_;(conv=>whnf);refine bR.o ab ?_;(conv=>whnf);refine bR.o ab ?_;(conv=>whnf);refine bR.o ab ?_;(conv=>whnf);refine bR.o ab ?_;(conv=>whnf);refine bR.o ab ?_;(conv=>whnf);refine bR.o ab ?_;(conv=>whnf);refine bR.nil (And.intro ?_ ?_)
   ·intro c0 cx a q0 q1 q2 q3 q4 q5;refine N4 q1 q3 q4 q5 q2 (HO ab ?_) (by simp) (by rw[q0];exact Nat.zero_le _);(conv=>whnf);refine aV ⟨by simp,by simp[DV.cells]⟩ ?_;(conv=>whnf);exact⟨rfl,rfl⟩
   refine bR.from ?_;(conv=>whnf);refine bR.o ab ?_;(conv=>whnf);refine bR.o ab ?_;(conv=>whnf);refine bR.nil fun blk cap=>?_;refine I.last ?_;(conv=>whnf);refine tB.of ab rfl ?_;(conv=>whnf);refine aB (e:=DV.agg [.int .i64 c.time,.aH]) ⟨by omega,by rw[fG];exact dF⟩ rfl ?_;(conv=>whnf);refine And.intro rfl ?_;(conv=>whnf);refine gO F37 ?_;refine aR ?_;refine gO F37 ?_;refine aW (by simp<;>omega) ?_;refine gO F37 ?_;have dM:∀ y:DV,(((dD++[d]).map GD.cC++[DV.agg [.int .i64 c.time,.aH]]).set (dD.length+1) y)[dD.length+1]?=some y:=fun y=>List.getElem?_set_self (aQ dF);refine aB (e:=DV.agg [.int .i64 c.time,.raw (.slice (some ⟨blk,0,none⟩) ([(⟨c.host,c.aw⟩:bc).enc]).length cap)]) ⟨by omega,by rw[fG];exact dM _⟩ rfl ?_;refine gO F37 ?_;refine I.HP (show gW _ _ _ true from wu (j:=6) (b:=false) (g:=false) rfl rfl rfl rfl) (HM ab rfl rfl rfl rfl (aS rfl)) ?_;(conv=>whnf);refine gO F37 ?_;(conv=>whnf);repeat ((fail_if_success (first|(refine I.kM ab F37 rfl rfl rfl (L:=[]) rfl ?_)|fail));(refine I.run ab F37 1 ?_);(conv=>whnf))
   refine I.kM ab F37 rfl rfl rfl (L:=[]) rfl ?_;(conv=>whnf);conv =>
    arg 3
    try whnf
    try conv=>arg 1;whnf
    try conv=>arg 2;whnf
    try conv=>arg 3;whnf
    try conv=>arg 3;arg 2;whnf
    try conv=>arg 4;whnf
    try conv=>arg 4;arg 1;whnf
    try conv=>arg 4;arg 2;whnf
    try conv=>arg 4;arg 3;whnf
    try conv=>arg 4;arg 4;whnf
    try conv=>arg 4;arg 4;arg 2;whnf
    try conv=>arg 4;arg 4;arg 1;arg 1;whnf
    try conv=>arg 4;arg 4;arg 1;arg 1;arg 2;whnf
    try conv=>arg 4;arg 4;arg 1;arg 1;arg 3;whnf
    try conv=>arg 4;arg 4;arg 1;arg 1;arg 3;arg 2;whnf
    try conv=>arg 4;arg 5;whnf
    try conv=>arg 4;arg 5;arg 2;whnf
    try conv=>arg 4;arg 6;whnf
   refine gO F13 ?_;refine I.uR (rows:=((dD++[d])++[(⟨c.time,[(⟨c.host,c.aw⟩:bc)],blk,cap⟩:GD)]).reverse.map fun d:GD=>bk.row d.row) (List.Perm.of_eq (by simp[GD.row])) ?_;refine I.back (IH (k+1,(dD++[d])++[(⟨c.time,[(⟨c.host,c.aw⟩:bc)],blk,cap⟩:GD)]) ⟨ah,by simp only;rw[cK hc,Ij,<- gj];rw[Ik (fun g hg=>by rw[List.map_append,List.map_singleton,List.getLast?_concat]at hg;cases hg;exact ht)];simp[GD.rO]⟩ (by simp only;omega)) ?_;(conv=>whnf);repeat (first|exact trivial|(rw[fy];conv=>whnf)|(refine sI ?_;conv=>whnf))
   refine And.intro (congrArg DV.bool (decide_eq_false (by simp<;>omega))) ?_;(conv=>whnf);repeat (first|exact trivial|(rw[fy];conv=>whnf)|(refine sI ?_;conv=>whnf))
   refine And.intro (by rw[fG];simp[GD.cC,GD.slice]) ?_;(conv=>whnf);repeat (first|exact trivial|(rw[fy];conv=>whnf)|(refine sI ?_;conv=>whnf))
 ·have aA:cl.length<=k:=by simpa using h5
  rw[List.take_of_length_le aA]at gj;have bg:(ds.map fun d=>Step.enc ⟨d.t,⟨d.ps⟩⟩)=(lg cl).map Step.enc:=by rw[lg,<- gj,List.map_map,List.map_map];rfl
  refine I.YF (b:=4) (g:=1) (ts:=(57,2)) (l:=ds.map GD.cC) (l':=ds.map fun d=>Step.enc ⟨d.t,⟨d.ps⟩⟩) (ds.reverse.map GD.row) (by simp[Function.comp_def]) rfl (Nat.zero_le _) (by simp) (fun i e e' he kE=>?_) ?_
  ·rw[List.getElem?_map]at he kE;cases hq:ds[i]? with
   |none=>rw[hq]at he;cases he
   |some d =>
    rw[hq]at he kE;cases he;cases kE;refine⟨rfl,fun j x x' hx dX=>?_⟩
    match j,hx,dX with
    |0,hx,dX=>cases hx;cases dX;exact .inl rfl
    |1,hx,dX =>
     cases hx;cases dX;exact .inr ⟨d.row,List.mem_map.2 ⟨d,List.mem_reverse.2 (List.mem_of_getElem? hq),rfl⟩,by simp[GD.slice,GD.row],rfl⟩
  (conv=>whnf);rw[bg];refine I.freeze 4 ?_;(conv=>whnf);rw[<- hQ];refine gO F13 ?_;refine aR ?_;refine gO F13 ?_
  with_reducible refine ao (c2) ?_
  refine gO F13 ?_
  with_reducible rfl
end Go.Proofs.YtfmdaiojokniiaaGreatDoor.P
end
section
namespace Go.Proofs.YtfmdaiojokniiaaGreatDoor.P
open Go Go.ay
def ir(t:Int)(l:List bc):List Claim:=l.map fun p=>⟨p.host,t,p.aw⟩
def iL(l:List Step):List Claim:=l.flatMap fun s=>ir s.time s.cb.cA
def nH(s:Step):Bool := !s.cb.cA.isEmpty
theorem Il(s:Step)(l:List Step):iL (s::l)=ir s.time s.cb.cA++iL l:=by simp[iL]
theorem Im:∀ {l:List Step},(∀ s∈l,s.cb.cA.length<=20)->(iL l).length<=20*l.length
 |[],_=>by simp[iL]
 |s::l,h=>by
  have:=Im (l:=l) fun t ht=>h t (List.mem_cons_of_mem _ ht);have h1:=h s (List.mem_cons_self ..);rw[Il,List.length_append,ir,List.length_map,List.length_cons];omega
theorem aaX{l:List Step}{c:Claim}(h:c∈iL l):∃ s∈l,∃ p∈s.cb.cA,c=⟨p.host,s.time,p.aw⟩:=by
 obtain⟨s,hs,h⟩:=List.mem_flatMap.1 h;obtain⟨p,hp,rfl⟩:=List.mem_map.1 h;exact⟨s,hs,p,hp,rfl⟩
theorem aaY{l:List Step}{k:Nat}{s:Step}(h:l[k]?=some s):iL (l.take (k+1))=iL (l.take k)++ir s.time s.cb.cA:=by
 rw[cK h,iL,List.flatMap_append];simp[iL]
theorem aaZ{t:Int}{l:List bc}{k:Nat}{p:bc}(h:l[k]?=some p):ir t (l.take (k+1))=ir t (l.take k)++[⟨p.host,t,p.aw⟩]:=by
 rw[cK h,ir,List.map_append];rfl
theorem Pl{n:Nat}{fin:Int}{b:List Claim}:∀ {a:List Claim} {t:Int} {S:List mH},gI n fin t S (a++b)=(gI n fin t S a&&gI n fin (vR t a) (S++a.map Claim.key) b)
 |[],t,S=>by simp[gI,vR]
 |c::a,t,S=>by
  rw[List.cons_append,gI,Pl (a:=a),gI,Bool.and_assoc,List.map_cons,List.append_assoc];rw[show vR t (c::a)=vR c.time a by cases a<;>simp[vR,List.getLast?_cons]];rfl
theorem Pm{n:Nat}{fin τ : Int}(Pn : τ < fin):∀ {l:List bc} {t:Int} {S:List mH},t <= τ -> l.all (je n)=true->(l.map bc.spot).Nodup->(∀ p∈l,(p.host,τ,p.aw.aj) ∉ S)->gI n fin t S (ir τ l)=true
 |[],_,_,_,_,_,_=>rfl
 |p::l,t,S,ht,ha,hn,hS=>by
  rw[List.map_cons,List.nodup_cons]at hn;rw[List.all_cons,Bool.and_eq_true]at ha;have h1:ou n fin t S ⟨p.host,τ,p.aw⟩=true:=by
   simp only[ou,Bool.and_eq_true,decide_eq_true_eq];exact⟨⟨⟨ha.1,ht⟩,Pn⟩,hS p (List.mem_cons_self ..)⟩
  show(ou n fin t S ⟨p.host,τ,p.aw⟩&&gI n fin τ (S++[(p.host,τ,p.aw.aj)]) (ir τ l))=true;rw[h1,Bool.true_and];refine Pm Pn (Int.le_refl _) ha.2 hn.2 fun q hq hm=>?_;rcases List.mem_append.1 hm with hm|hm
  ·exact hS q (List.mem_cons_of_mem _ hq) hm
  ·have e:=List.mem_singleton.1 hm;refine hn.1 (List.mem_map.2 ⟨q,hq,?_⟩);simp only[Prod.mk.injEq]at e;simp[bc.spot,e.1,e.2.2]
theorem Po{n:Nat}{fin:Int}:∀ {l:List Step} {q:Option Step} {t:Int} {S:List mH},chain (dC n fin) eZ q l=true->(∀ s,l.head?=some s->t<=s.time/\∀ k∈S,k.2.1<s.time)->gI n fin t S (iL l)=true
 |[],_,_,_,_,_=>rfl
 |s::l,q,t,S,hc,hh=>by
  obtain⟨h1,h2⟩:=hh s rfl;simp only[chain,Bool.and_eq_true]at hc;obtain⟨⟨hs,-⟩,hr⟩:=hc;simp only[dC,iG,Bool.and_eq_true,decide_eq_true_eq]at hs;obtain⟨⟨-,hf⟩,⟨-,ha⟩,hn⟩:=hs;rw[Il,Pl,Pm hf h1 ha hn (fun p hp hm=>by have:=h2 _ hm;simp at this),Bool.true_and];refine Po hr fun s' oS=>?_;have ah:s.time<s'.time:=by
   cases l with
   |nil=>simp at oS
   |cons x l =>
    obtain rfl:x=s':=by simpa using oS
    simp only[chain,eZ,Bool.and_eq_true,decide_eq_true_eq]at hr;exact hr.1.2
  have Pg:vR t (ir s.time s.cb.cA)<=s.time:=by
   unfold vR;cases hg:(ir s.time s.cb.cA).getLast? with
   |none=>simpa using h1
   |some c =>
    obtain⟨p,-,rfl⟩:=List.mem_map.1 (List.mem_of_getLast? hg);simp
  refine⟨by omega,fun k hk=>?_⟩;rcases List.mem_append.1 hk with hk|hk
  ·have:=h2 k hk;omega
  ·obtain⟨c,hc,rfl⟩:=List.mem_map.1 hk;obtain⟨p,-,rfl⟩:=List.mem_map.1 hc;exact ah
theorem aa0{h:bZ}{l:List Step}(hv:fq h l=true)(hl:(iL l).length<=4000):mI h (iL l)=true:=by
 simp only[fq,mF,Bool.and_eq_true,decide_eq_true_eq]at hv;obtain⟨-,-,hc⟩:=hv;simp only[mI,Bool.and_eq_true,decide_eq_true_eq];refine⟨hl,Po hc fun s hs=>⟨?_,fun k hk=>by cases hk⟩⟩;cases l with
 |nil=>cases hs
 |cons x l =>
  obtain rfl:x=s:=by simpa using hs
  simp only[chain,dC,Bool.and_eq_true,decide_eq_true_eq]at hc;exact hc.1.1.1.1
theorem Pp{τ : Int}{gs:List (Int × List bc)}:∀ {l q:List bc},(ir τ l).foldl iK (gs++[(τ,q)])=gs++[(τ,q++l)]
 |[],q=>by simp[ir]
 |p::l,q=>by
  show(ir τ l).foldl iK (iK (gs++[(τ,q)]) ⟨p.host,τ,p.aw⟩)=_;rw[Pf rfl,Pp];simp
theorem aa1{τ : Int}{gs:List (Int × List bc)}(h:∀ g,gs.getLast?=some g->g.1 ≠ τ):∀ {l:List bc},l≠[]->(ir τ l).foldl iK gs=gs++[(τ,l)]
 |[],hn=>absurd rfl hn
 |p::l,_=>by
  show(ir τ l).foldl iK (iK gs ⟨p.host,τ,p.aw⟩)=_;rw[Ik h];show(ir τ l).foldl iK (gs++[(τ,[p])])=_;rw[Pp];rfl
theorem Io{n:Nat}{fin:Int}:∀ {l:List Step} {q:Option Step} {gs:List (Int × List bc)},chain (dC n fin) eZ q l=true->(∀ s,l.head?=some s->∀ g,gs.getLast?=some g->g.1<s.time)->(iL l).foldl iK gs=gs++(l.filter nH).map fun s=>(s.time,s.cb.cA)
 |[],_,gs,_,_=>by simp[iL]
 |s::l,q,gs,hc,hh=>by
  have h1:=hh s rfl;simp only[chain,Bool.and_eq_true]at hc;obtain⟨⟨hs,-⟩,hr⟩:=hc;have ah:∀ s',l.head?=some s'->s.time<s'.time:=fun s' oS=>by
   cases l with
   |nil=>simp at oS
   |cons x l =>
    obtain rfl:x=s':=by simpa using oS
    simp only[chain,eZ,Bool.and_eq_true,decide_eq_true_eq]at hr;exact hr.1.2
  rw[Il,List.foldl_append];by_cases he:s.cb.cA=[]
  ·rw[List.filter_cons_of_neg (by simp[nH,he]),he];exact Io hr fun s' oS g hg=>by have:=h1 g hg;have:=ah s' oS;omega
  ·rw[List.filter_cons_of_pos (by simp[nH,he]),aa1 (fun g hg e=>by have:=h1 g hg;omega) he,Io hr fun s' oS g hg=>?_]
   ·simp
   ·simp at hg;subst hg;exact ah s' oS
theorem Pq{h:bZ}{l:List Step}(hv:fq h l=true):lg (iL l)=l.filter nH:=by
 simp only[fq,mF,Bool.and_eq_true,decide_eq_true_eq]at hv;rw[lg,qc,Io hv.2.2 (fun s _ g hg=>by simp at hg),List.nil_append,List.map_map];exact(List.map_congr_left fun s _=>rfl).trans (List.map_id _)
theorem aa2{α:Type}{ok:α->Bool}{rel:α->α->Bool}(tr:∀ a b c,rel a b=true->rel b c=true->rel a c=true){x:α}{q:Option α}(hq:∀ y,q=some y->rel y x=true):∀ {l:List α},chain ok rel (some x) l=true->chain ok rel q l=true
 |[],_=>by cases q<;>rfl
 |z::l,h=>by
  simp only[chain,Bool.and_eq_true]at h ⊢;refine⟨⟨h.1.1,?_⟩,h.2⟩;cases q with
  |none=>rfl
  |some y=>exact tr _ _ _ (hq y rfl) h.1.2
theorem Ip{α:Type}{ok:α->Bool}{rel:α->α->Bool}(tr:∀ a b c,rel a b=true->rel b c=true->rel a c=true)(f:α->Bool):∀ {l:List α} {q:Option α},chain ok rel q l=true->chain ok rel q (l.filter f)=true
 |[],q,_=>by cases q<;>rfl
 |z::l,q,h=>by
  simp only[chain,Bool.and_eq_true]at h;cases hf:f z
  ·rw[List.filter_cons_of_neg (by simp[hf])];refine aa2 tr (x:=z) (fun y hy=>?_) (Ip tr f h.2);subst hy;exact h.1.2
  ·rw[List.filter_cons_of_pos hf];simp only[chain,Bool.and_eq_true];exact⟨h.1,Ip tr f h.2⟩
theorem aa3{h:bZ}{l:List Step}(f:Step->Bool)(hv:fq h l=true):fq h (l.filter f)=true:=by
 simp only[fq,mF,Bool.and_eq_true,decide_eq_true_eq]at hv ⊢;exact⟨hv.1,by have:=List.length_filter_le f l;omega,Ip (fun a b c h1 h2=>by simp only[eZ,decide_eq_true_eq]at *;omega) f hv.2.2⟩
theorem Pr{at_:Int}:∀ {cs:List aY},lS [] at_ cs=cs
 |[]=>rfl
 |c::cs=>by
  have:=Pr (at_:=at_) (cs:=cs);rw[lS]at this ⊢;rw[List.flatMap_cons,this];simp[ot]
theorem Dz{fin:Int}:∀ {l:List Step} {cs:List aY},fw fin cs (l.filter nH)=fw fin cs l
 |[],_=>rfl
 |s::l,cs=>by
  by_cases he:s.cb.cA=[]
  ·rw[List.filter_cons_of_neg (by simp[nH,he])];show fw fin cs (l.filter nH)=fw fin (tn fin cs s) l;rw[Dz,tn,he];simp[Pr,mG]
  ·rw[List.filter_cons_of_pos (by simp[nH,he])];exact Dz (cs:=tn fin cs s)
theorem Ps{h:bZ}{l:List Step}(hv:fq h l=true):applyN h (l.filter nH)=applyN h l/\fQ h (l.filter nH)=fQ h l:=by
 have e:applyN h (l.filter nH)=applyN h l:=by rw[applyN,applyN,aa3 nH hv,hv,Dz]
 exact⟨e,by rw[fQ,fQ,e,Dz]⟩
theorem Pt{h:bZ}(hv:gz h=true):applyN h []=0/\fQ h []=h:=by
 have hm:vx h.aE=false:=by
  simp only[gz,Bool.and_eq_true,decide_eq_true_eq]at hv;simp[vx,hv.2,hv.1.1.1.1.2]
 have e:applyN h []=0:=by
  rw[applyN,show fq h []=true by simp[fq,hv,mF,chain],if_pos rfl,show fw h.fin h.aE []=h.aE from rfl,hm];rfl
 exact⟨e,by rw[fQ,if_pos e];rfl⟩
theorem aa4{h:bZ}{l:List Step}(h0:applyN h l=0):fQ h l={ h with aE:=fw h.fin h.aE l }:=by rw[fQ,if_pos h0]
end Go.Proofs.YtfmdaiojokniiaaGreatDoor.P
end
section
namespace Go.Proofs.YtfmdaiojokniiaaGreatDoor.P
open Go Go.ay
set_option maxRecDepth 100000
set_option maxHeartbeats 4000000
def oD(h:bZ)(x:cW)(i:Nat)(t:Int):dR × Int:=match lU (nD h x i) t with
 |[]=>(⟨7,[],[]⟩,0)
 |p::_=>(o9 p.aw x.q,rM p.aw x.q)
def dp(a:Int):cW:=⟨12,a,⟨[120],4⟩,ya⟩
def er(d:Int):bZ:={ jk with bN:=d }
theorem Pu(d:Int):(er d).Fits:=Ig fun c hc=>by
 simp[jk,db]at hc;rcases hc with rfl|rfl
 ·exact⟨1,rfl⟩
 ·exact⟨2,rfl⟩
theorem Pv(y:Host)(l:List bc)(hy:y.name.length<=maxLen)(hl:∀ p∈l,∃ n,p.aw=gL n):(⟨[y],l,db.anchor,[1]⟩:oY).Fits:=⟨fun x hx=>by simp at hx;subst hx;exact hy,Pc,by simp[maxLen],fun p hp=>by
 obtain⟨n,e⟩:=hl p hp;rw[e]
 exact AU n⟩
theorem Pw(a:Int):(dp a).cT:=⟨by simp[dp,maxLen],by simp[dp,ya,maxLen],fun s hs=>by
 simp[dp,ya]at hs;subst hs
 exact⟨Ie _ _ (by simp[maxLen]),by simp[oC,maxLen],by simp[oC]⟩,by simp[dp,ya,maxLen]⟩
theorem aa5{l:List Int}(h:l.Pairwise (· <= ·)):gm l=l:=(xZ l).eq_of_pairwise (fun _ _ _ _ p q=>Int.le_antisymm p q) (HQ l) h
theorem DA(d:Int)(i:Nat){l:List Int}(h:eC [] (nC (x3 (er d) (dp 2)) (x4 (er d) (dp 2)) (nD (er d) (dp 2) i))=l)(hl:l.Pairwise (· <= ·)):nE (er d) (dp 2) i=l:=by
 unfold nE;rw[h,aa5 hl]
theorem t1:nE (er 2) (dp 2) 0=[10]:=DA _ _ (by decide +kernel) (by decide)
theorem t2:nE (er 2) (dp 2) 1=[10]:=DA _ _ (by decide +kernel) (by decide)
theorem t3:nE (er 3) (dp 2) 0=[9]:=DA _ _ (by decide +kernel) (by decide)
theorem t4:nE (er 3) (dp 2) 1=[9,10]:=DA _ _ (by decide +kernel) (by decide)
theorem Px{ask:Nat->Int->dR × Int}{h:bZ}{x:cW}{a b:Bool}(hl:h.aC.length=2)(hv:(gz h&&p0 x && !nw x.answer)=true)(h0:jh ask h x 0=a)(h1:jh ask h x 1=b):tC ask h x=(if a then[0]else[])++if b then[1]else[]:=by
 unfold tC;rw[hv,if_pos rfl,hl,show List.range 2=[0,1]from rfl];subst h0;subst h1;simp only[List.filter];cases jh ask h x 0<;>cases jh ask h x 1<;>rfl
theorem t5:tC (oD (er 2) (dp 2)) (er 2) (dp 2)=[]:=Px (a:=false) (b:=false) rfl (by decide +kernel) (by unfold jh;rw[t1];decide +kernel) (by unfold jh;rw[t2];decide +kernel)
theorem t6:tC (oD (er 3) (dp 2)) (er 3) (dp 2)=[1]:=Px (a:=false) (b:=true) rfl (by decide +kernel) (by unfold jh;rw[t3];decide +kernel) (by unfold jh;rw[t4];decide +kernel)
theorem t7:x5 (er 2) (dp 2)=0/\x5 (er 3) (dp 2)=0/\p0 (dp 0)=false:=by decide +kernel
theorem aa6(d:Int)(i:Nat)(y:Host)(t:Int)(hy:y=⟨[97],1,0⟩\/y=⟨[98],2,0⟩)(hz:lU (nD (er d) (dp 2) i) t=[]\/∃ n,(n=1\/n=2)/\lU (nD (er d) (dp 2) i) t=[⟨0,gL n⟩]):aq E 31 [.agg [.sl [y.enc],.sl ((lU (nD (er d) (dp 2) i) t).map bc.enc),.str db.anchor.name,.int .i64 db.anchor.type,.int .i64 db.anchor.cy,.sl (db.anchor.data.map Datum.enc),.sl ([1].map (.int .i64))],.int .i64 y.addr,.agg [.str [120],.int .i64 4]] (· = .aD [.agg [.int .i64 (oD (er d) (dp 2) i t).1.kind,.sl ((oD (er d) (dp 2) i t).1.ae.map Signed.enc),.str (oD (er d) (dp 2) i t).1.cut],.int .i64 (oD (er d) (dp 2) i t).2])/\(oD (er d) (dp 2) i t).1.ae.length<=2147483648/\∀ s∈(oD (er d) (dp 2) i t).1.ae,s.set.data.length<=2147483648/\s.sigs.length<=2147483648:=by
 have hn:y.name.length<=maxLen:=by rcases hy with rfl|rfl<;>simp[maxLen]
 unfold oD;rcases hz with e|⟨n,jc,e⟩
 ·rw[e];refine⟨aaF y db.anchor [1] ⟨[120],4⟩ (Pv y [] hn (by simp)) ?_ (by decide +kernel) (by simp[maxLen]),by simp,by simp⟩;rcases hy with rfl|rfl<;>decide +kernel
 ·rw[e];refine⟨aaG y (gL n) db.anchor [1] ⟨[120],4⟩ (Pv y [⟨0,gL n⟩] hn (fun p hp=>⟨n,by simp at hp;subst hp;rfl⟩)) ?_ (by decide +kernel) (by simp[maxLen]) (by rcases jc with rfl|rfl<;>decide +kernel),?_⟩
  ·rcases hy with rfl|rfl<;>rcases jc with rfl|rfl<;>decide +kernel
  ·rcases jc with rfl|rfl<;>decide +kernel
theorem aa7(d:Int)(hd:d=2\/d=3)(i:Nat)(y:Host)(t:Int)(hy:db.aC[i]?=some y)(ht:t∈nE (er d) (dp 2) i):(y=⟨[97],1,0⟩\/y=⟨[98],2,0⟩)/\(lU (nD (er d) (dp 2) i) t=[]\/∃ n,(n=1\/n=2)/\lU (nD (er d) (dp 2) i) t=[⟨0,gL n⟩]):=by
 rcases i with _|_|i
 ·refine⟨.inl (by simpa [db]using hy.symm),.inl ?_⟩;rcases hd with rfl|rfl
  ·rw[t1]at ht;simp at ht;subst ht;decide +kernel
  ·rw[t3]at ht;simp at ht;subst ht;decide +kernel
 ·refine⟨.inr (by simpa [db]using hy.symm),.inr ?_⟩;rcases hd with rfl|rfl
  ·rw[t2]at ht;simp at ht;subst ht;exact⟨2,by decide +kernel⟩
  ·rw[t4]at ht;simp at ht;rcases ht with rfl|rfl
   ·exact⟨1,by decide +kernel⟩
   ·exact⟨2,by decide +kernel⟩
 ·simp[db]at hy
theorem Py(d:Int)(hd:d=2\/d=3):aq E 17 [(er d).enc,(dp 2).enc] (· = .aD [.sl ((tC (oD (er d) (dp 2)) (er d) (dp 2)).map (.int .i64)),.int .i64 (x5 (er d) (dp 2))]) :=
 Ow (er d) (dp 2) (oD (er d) (dp 2)) (Pu d) (by simp[er,jk]) (Pw 2) fun i y t hy _ _ ht=>by
  obtain⟨h1,h2⟩:=aa7 d hd i y t hy ht;exact aa6 d i y t h1 h2
theorem aa8:aq E 17 [jk.enc,(dp 0).enc] (· = .aD [.sl [],.int .i64 1]):=by
 have c:=Ow jk (dp 0) (oD jk (dp 0)) (Pu 2) (by simp[jk]) (Pw 0) fun i y t _ _ hr _=>by rw[t7.2.2]at hr;cases hr
 unfold tC x5 at c
 simpa [t7.2.2]using c
theorem Pz(n:Int):(gL n).kS:=⟨by simp[gL],fun s hs=>by
 simp[gL]at hs
 rcases hs with rfl|rfl<;>exact⟨by simp[oC],by simp[oC]⟩⟩
theorem aa9:jk.kS:=⟨by simp[jk,db],by simp[jk],by simp[jk,db],by simp[jk,db],fun c hc=>by
 simp[jk]at hc;rcases hc with rfl|rfl
 ·exact Pz 1
 ·exact Pz 2⟩
theorem Iq:aq E 9 [] (· = .bool true):=by
 have c1:=aaJ;have c2:=Py 2 (.inl rfl);have c3:=Py 3 (.inr rfl);have c4:=aa8;have c5:=Hn jk jk aa9;rw[decide_eq_true rfl]at c5;have c6:=YP [1] 1 (by simp[maxLen]);rw[t5,t7.1]at c2;rw[t6,t7.2.1]at c3;refine eP F9 ?_;refine wV (c1) rfl ?_;refine gO F9 ?_;refine aO aaM ?_;refine gO F9 ?_;refine aO aaO ?_;refine gO F9 ?_;refine ao c2 ?_;refine gO F9 ?_;refine ao c3 ?_;refine gO F9 ?_;refine ao c4 ?_;refine gO F9 ?_;refine aU (by decide) ?_;refine gO F9 ?_;refine aU (by decide) ?_;refine gO F9 ?_;refine aU (by decide) ?_;refine gO F9 ?_;refine aU (by decide) ?_;refine gO F9 ?_;refine aU (by decide) ?_;refine gO F9 ?_;refine ao c5 ?_;refine gO F9 ?_;refine aU rfl ?_;refine gO F9 ?_;refine aU rfl ?_;refine gO F9 ?_;refine aU rfl ?_;refine gO F9 ?_;refine aU rfl ?_;refine gO F9 ?_;refine ao c6 ?_;refine gO F9 ?_;refine aU rfl ?_;refine gO F9 ?_;refine aO (Dy fI.eh true Ii Ih) ?_;refine gO F9 ?_;refine aV (of_decide_eq_true rfl) ?_;refine gO F9 ?_;refine aB (e:=Claim.enc ⟨1,10,gL 2⟩) ⟨of_decide_eq_true rfl,rfl⟩ rfl ?_;refine gO F9 ?_;refine bj ?_;refine gO F9 ?_;refine aO (Dy [⟨2,10,gL 2⟩] false ⟨by simp[maxLen],fun c hc=>by simp at hc;subst hc;exact AU 2⟩ (by decide +kernel)) ?_;refine gO F9 ?_;rfl
theorem aa'(e:fm)(c1:aq E 20 [e.enc] (· = .bool (kj e)))(c2:aq E 22 [e.before.enc,.sl (e.steps.map Step.enc)] (· = .aD [(fQ e.before e.steps).enc,.int .i64 (applyN e.before e.steps)])) :
  aq E 15 [e.enc] (· = if kj e then .aD [(fQ e.before e.steps).enc,.int .i64 (applyN e.before e.steps)]else .aD [tp.enc,.int .i64 1]):=by
 refine aq.norm ?_;generalize kj e=v at *;obtain⟨⟨aC,aE,anchor,hints,bN,fin⟩,sl,cl,tl⟩:=e;simp only at c2 ⊢;generalize fQ _ sl=H at *;generalize applyN _ sl=M at *;show aq E _ [DV.agg [.sl (aC.map Host.enc),.sl (aE.map aY.enc),.str anchor.name,.int .i64 anchor.type,.int .i64 anchor.cy,.sl (anchor.data.map Datum.enc),.sl (hints.map (.int .i64)),.int .i64 bN,.int .i64 fin,.sl (sl.map Step.enc),.sl (cl.map Claim.enc),.sl (tl.map cP.enc)]] _;refine eP Tryz.func15 ?_;repeat' (first|with_reducible(first|refine ao (c1) ?_|refine au (c1) ?_|refine ao (c2) ?_|refine au (c2) ?_|refine cY ?_|refine cN ?_|refine ai (fun _=>?_) (fun _=>?_))|refine gA Tryz.func15 ?_|refine gB ?_|with_reducible rfl)
 all_goals (simp_all;try rfl)
theorem aq.aba{f:FuncId}{a:DV}{R:DV->Prop}(H:aq E f [norm a] R):aq E f [a] R:=by
 unfold aq at H ⊢;refine⟨H.1,fun az w vs h1 h2 h3=>H.2 az w vs h1 h2 ⟨h3.1,fun j x v hx hv=>?_⟩⟩
 match j,hx with
 |0,hx =>
  cases hx;exact FF (h3.2 0 a v rfl hv)
def fm.vS(x:fm)(l:List Claim):fm:=⟨x.before,x.steps,l,x.jY⟩
theorem abb{x:fm}{l:List Claim}(h:kj x=true)(hl:mI x.before l=true):kj (x.vS l)=true:=by
 simp only[kj,fm.vS,Bool.and_eq_true]at h ⊢;exact⟨⟨h.1.1,hl⟩,h.2⟩
theorem evS{x:fm}(h:kj x=true):fq x.before x.steps=true:=by
 simp only[kj,Bool.and_eq_true]at h;exact h.1.1.2
theorem PA{h:bZ}{l:List Step}(hv:fq h l=true):gz h=true:=by
 simp only[fq,Bool.and_eq_true]at hv;exact hv.1
theorem abd{h:bZ}{l:List Step}(hl:h.kS)(vc:h.aE.length<=20)(hv:fq h l=true)(hp:∀ s∈l,s.cb.cA.length<=20/\∀ p∈s.cb.cA,p.aw.kS)(hn:l.length<=400):(fQ h l).kS:=by
 by_cases h0:applyN h l=0
 ·rw[aa4 h0];have:=Hg (fin:=h.fin) (cs:=h.aE) (l:=l) (fun s hs=>by have:=(hp s hs).1;omega) l.length (Nat.le_refl _);rw[List.take_length]at this;exact⟨hl.aC,by simp only;omega,hl.hints,hl.anchor,Hh hl.jB fun s hs p hq _=>(hp s hs).2 p hq⟩
 ·rw[fQ,if_neg h0];exact⟨by simp[tp],by simp[tp],by simp[tp],by simp[tp],fun c hc=>by simp[tp]at hc⟩
theorem PB(x:fm)(E1:x.Fits)(hv:kj x=true)(l:List Claim)(hl:l.length<=400)(hz:∀ c∈l,c.aw.Fits)(hb:mI x.before l=true)(hs:Steps.Fits (lg l)) :
  aq E 15 [(x.vS l).enc] (· = .aD [(fQ x.before x.steps).enc,.int .i64 (applyN x.before x.steps)])/\aq E 13 [(x.vS l).enc] (· = .aD [(fQ x.before (lg l)).enc,.int .i64 (applyN x.before (lg l))]):=by
 have c1:=Yo (x.vS l) E1.before E1.aE E1.steps (ov.Fits.b ⟨pt (show l.length<=2147483648 by omega),hz⟩) E1.C7 E1.each;have e1:=abb hv hb;have c2:=aa' (x.vS l) c1 (Db x.before x.steps E1.before E1.aE E1.steps);have c3:=aaR (x.vS l) c1 hl (Db x.before (lg l) E1.before E1.aE hs);rw[e1,if_pos rfl]at c2 c3;exact⟨c2,c3⟩
theorem abe(x:fm)(hx:x.Good):aq E 4 [x.enc] (· = .bool true):=by
 have cf:=Xe x hx.2.2.1.1 hx.2.2.2.1 (aaW hx);cases hf:xS x
 ·rw[hf]at cf;obtain⟨⟨aC,aE,anchor,hints,bN,fin⟩,sl,cl,tl⟩:=x;show aq E _ [DV.agg [.sl (aC.map Host.enc),.sl (aE.map aY.enc),.str anchor.name,.int .i64 anchor.type,.int .i64 anchor.cy,.sl (anchor.data.map Datum.enc),.sl (hints.map (.int .i64)),.int .i64 bN,.int .i64 fin,.sl (sl.map Step.enc),.sl (cl.map Claim.enc),.sl (tl.map cP.enc)]] _;refine eP F4 ?_;refine ao (Iq) ?_;refine gO F4 ?_;refine ao (cf) ?_;refine gO F4 ?_;refine bj ?_;refine gO F4 ?_;refine bj ?_;refine gO F4 ?_
  with_reducible rfl
 obtain⟨E1,dA⟩:=aaV hx hf;have cv:=Xf x E1;rw[hf]at cf;cases hv:kj x
 ·rw[hv]at cv;clear dA E1 hf hv hx;obtain⟨⟨aC,aE,anchor,hints,bN,fin⟩,sl,cl,tl⟩:=x;show aq E _ [DV.agg [.sl (aC.map Host.enc),.sl (aE.map aY.enc),.str anchor.name,.int .i64 anchor.type,.int .i64 anchor.cy,.sl (anchor.data.map Datum.enc),.sl (hints.map (.int .i64)),.int .i64 bN,.int .i64 fin,.sl (sl.map Step.enc),.sl (cl.map Claim.enc),.sl (tl.map cP.enc)]] _;refine eP F4 ?_;refine ao (Iq) ?_;refine gO F4 ?_;refine ao (cf) ?_;refine gO F4 ?_;refine aR ?_;refine gO F4 ?_;refine ao (cv) ?_;refine gO F4 ?_;refine bj ?_;refine gO F4 ?_
  with_reducible rfl
 rw[hv]at cv;simp only[xS,Bool.and_eq_true,decide_eq_true_eq]at hf;obtain⟨⟨⟨⟨-,f3⟩,f4⟩,-⟩,-⟩:=hf;obtain⟨-,PC,-,hL⟩:=Ph hx.1 f3;simp only[xQ,Bool.and_eq_true,decide_eq_true_eq]at f4;obtain⟨f4,f5⟩:=f4;have hp:∀ s∈x.steps,s.cb.cA.length<=20/\∀ p∈s.cb.cA,p.aw.kS:=fun s hs=>by
  have:=List.all_eq_true.1 f5 s hs;simp only[pW,Bool.and_eq_true,decide_eq_true_eq]at this;exact⟨this.1,fun p hp=>(C1 (((hx.2.1.2 s hs).2).2 p hp).2 (List.all_eq_true.1 this.2 p hp)).2.2⟩
 have dm:=evS hv;have hlen:=Im fun s hs=>(hp s hs).1;have c0:=(PB x E1 hv [] (by simp) (fun c hc=>by cases hc) (by simp[mI,gI]) ⟨fun s hs=>(by simp[lg,qc]at hs),by simp[lg,qc]⟩).2;rw[show lg []=[]from rfl,(Pt (PA dm)).1,(Pt (PA dm)).2]at c0
 obtain⟨c1,c2⟩:=PB x E1 hv (iL x.steps) (by omega) (fun c hc=>by
  obtain⟨s,hs,p,hp,rfl⟩:=aaX hc;exact(E1.steps.each s hs).jB p hp) (aa0 dm (by omega)) (by
  rw[Pq dm]
  exact⟨fun s hs=>E1.steps.each s (List.mem_filter.1 hs).1,by have:=List.length_filter_le nH x.steps;omega⟩)
 rw[Pq dm,(Ps dm).1,(Ps dm).2]at c2;have c3:=Db x.before x.steps E1.before E1.aE E1.steps;have s0:=Hn x.before x.before hL;have s1:=Hn (fQ x.before x.steps) (fQ x.before x.steps) (abd hL PC dm hp (by omega));rw[decide_eq_true rfl]at s0 s1;generalize fQ x.before x.steps=H at *;generalize applyN x.before x.steps=M at *;clear f3 f5 PC hL dA E1 hv hx dm;obtain⟨⟨aC,aE,anchor,hints,bN,fin⟩,sl,cl,tl⟩:=x;obtain⟨ab5,ab6,ab7,ab8,ab9,ab'⟩:=H;simp only at hp hlen f4 c0 c1 c2 c3 s0 s1;show aq E _ [DV.agg [.sl (aC.map Host.enc),.sl (aE.map aY.enc),.str anchor.name,.int .i64 anchor.type,.int .i64 anchor.cy,.sl (anchor.data.map Datum.enc),.sl (hints.map (.int .i64)),.int .i64 bN,.int .i64 fin,.sl (sl.map Step.enc),.sl (cl.map Claim.enc),.sl (tl.map cP.enc)]] _;refine eP F4 ?_;refine ao (Iq) ?_;refine gO F4 ?_;refine ao (cf) ?_;refine gO F4 ?_;refine aR ?_;refine gO F4 ?_;refine ao (cv) ?_;refine gO F4 ?_;refine aR ?_;refine gO F4 ?_;refine ao (aq.aba c0) ?_;refine gO F4 ?_;refine aR ?_;refine gO F4 ?_;refine ao s0 ?_;refine gO F4 ?_;refine aR ?_;refine gO F4 ?_;refine I.pK 0 10 (63,4) (by decide) rfl rfl ?_;refine I.loop (κ:=Nat) ([7,9]++rg 44 26) (fun k=>[(44,.d (.int .i64 k))]) (fun k=>[(0,.cells [.d (.sl (aC.map Host.enc)),.d (.sl (aE.map aY.enc)),.d (.str anchor.name),.d (.int .i64 anchor.type),.d (.int .i64 anchor.cy),.d (.sl (anchor.data.map Datum.enc)),.d (.sl (hints.map (.int .i64))),.d (.int .i64 bN),.d (.int .i64 fin),.d (.sl (sl.map Step.enc)),.own 2 1,.d (.sl (tl.map cP.enc))]),(2,.arr 1 (63,4) ((iL (sl.take k)).map Claim.enc))]) (fun k=>k<=sl.length) (fun k=>sl.length-k) 0 (Nat.zero_le _) ?_ ?_
 ·(conv=>whnf);repeat (first|exact trivial|(refine sI ?_;conv=>whnf))
  refine And.intro rfl ?_;exact sZ
 intro k hk IH;refine I.head ab F4 2000 ?_;(conv=>whnf);refine ai (fun h5=>?_) (fun h5=>?_)
 ·have ah:k<sl.length:=by simpa using h5
  obtain⟨s,hs⟩:=aG ah;have oP:=(hp s (List.mem_of_getElem? hs)).1;have iO:(iL (sl.take k)).length<=400:=by
   have:=Im (l:=sl.take k) fun s hs=>(hp s (List.take_subset _ _ hs)).1;rw[List.length_take]at this;omega
  have aF:=aaY hs;refine gO F4 ?_;refine aB (e:=s.enc) (aN hs) rfl ?_;refine gO F4 ?_;refine I.loop (κ:=Nat) ([9]++rg 52 17) (fun j=>[(52,.d (.int .i64 j))]) (fun j=>[(0,.cells [.d (.sl (aC.map Host.enc)),.d (.sl (aE.map aY.enc)),.d (.str anchor.name),.d (.int .i64 anchor.type),.d (.int .i64 anchor.cy),.d (.sl (anchor.data.map Datum.enc)),.d (.sl (hints.map (.int .i64))),.d (.int .i64 bN),.d (.int .i64 fin),.d (.sl (sl.map Step.enc)),.own 2 1,.d (.sl (tl.map cP.enc))]),(2,.arr 1 (63,4) ((iL (sl.take k)++ir s.time (s.cb.cA.take j)).map Claim.enc))]) (fun j=>j<=s.cb.cA.length) (fun j=>s.cb.cA.length-j) 0 (Nat.zero_le _) ?_ ?_
  ·(conv=>whnf);repeat (first|exact trivial|(refine sI ?_;conv=>whnf))
   refine And.intro (by simp[ir]) ?_;exact sZ
  intro j hj JH;refine I.head ab F4 2000 ?_;(conv=>whnf);refine ai (fun h6=>?_) (fun h6=>?_)
  ·have Hk:j<s.cb.cA.length:=by simpa using h6
   obtain⟨p,Da⟩:=aG Hk;have eb:=aaZ (t:=s.time) Da;have hj3:(ir s.time (s.cb.cA.take j)).length<=20:=by rw[ir,List.length_map,List.length_take];omega
   refine gO F4 ?_;refine aB (e:=p.enc) (aN Da) rfl ?_;refine gO F4 ?_;refine aV ⟨by simp;omega,by simp[DV.cells]⟩ ?_;refine gO F4 ?_;refine I.back (JH (j+1) (by omega) (by omega)) ?_;rw[eb];(conv=>whnf);repeat (first|exact trivial|(refine sI ?_;conv=>whnf))
   refine And.intro (by simp[Claim.enc]) ?_;exact sZ
  ·have aA:s.cb.cA.length<=j:=by simpa using h6
   rw[List.take_of_length_le aA];refine gO F4 ?_;refine I.back (IH (k+1) (by omega) (by omega)) ?_;rw[aF];exact sZ
 ·have aA:sl.length<=k:=by simpa using h5
  rw[List.take_of_length_le aA];refine I.freeze 2 ?_;(conv=>whnf);refine gO F4 ?_;refine ao c2 ?_;refine gO F4 ?_;refine ao c1 ?_;refine gO F4 ?_;refine ao c3 ?_;refine gO F4 ?_;refine aU rfl ?_;refine gO F4 ?_;refine aU (by simp) ?_;refine gO F4 ?_;refine aU (by simp) ?_;refine gO F4 ?_;refine ao s1 ?_;refine gO F4 ?_;refine aU rfl ?_;refine gO F4 ?_;refine ao s1 ?_;refine gO F4 ?_
  with_reducible rfl
theorem abf(x:fm)(g0:x.Good):aq E 4 [x.enc] (· = .bool true):=abe x g0
end Go.Proofs.YtfmdaiojokniiaaGreatDoor.P
end
