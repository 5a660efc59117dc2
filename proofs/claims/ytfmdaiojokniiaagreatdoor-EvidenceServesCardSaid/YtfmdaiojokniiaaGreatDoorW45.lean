/- Several texts of mine, one behind the other. Conditions: as each says. -/
import Derived.Test.YtfmdaiojokniiaaGreatDoorW35
import Derived.Test.YtfmdaiojokniiaaGreatDoorW44
set_option linter.unusedVariables false
set_option linter.unusedSimpArgs false
section
namespace Go.Proofs.YtfmdaiojokniiaaGreatDoor.P
open Go Go.aw
set_option maxRecDepth 100000
set_option maxHeartbeats 4000000
def lW (kind:Int) (d:Datum):Signed:=⟨⟨[120],kind,9,[d]⟩,[]⟩
def fw (n:Int):aF:=⟨[120],[lW 2 ⟨[98],0,0⟩,lW 4 ⟨[],n,0⟩]⟩
def cG:bN:=⟨[⟨[97],1,0⟩,⟨[98],2,0⟩],[⟨1,0,100,fw 1⟩],⟨[46],6,0,[⟨[],1,1⟩]⟩,[1],2,100⟩
def eG:p0:=⟨cG,[⟨10,⟨[⟨1,fw 2⟩]⟩⟩],[⟨1,10,fw 2⟩],[]⟩
def ur:dj:=⟨1,[lW 4 ⟨[],1,0⟩],[]⟩
theorem Kb (kind:Int) (d:Datum):au E 92 [.int .i64 kind,d.enc] (· = (lW kind d).enc):=by
 obtain ⟨x,y,z⟩:=d;refine au.norm ?_;show au E _ [.int .i64 kind,DV.agg [.str x,.int .i64 y,.int .i64 z]] _;refine eP Tryz.func92 ?_;rfl
theorem TZ (n:Int):au E 91 [.int .i64 n] (· = (fw n).enc):=by
 have c1:=Kb 2 ⟨[98],0,0⟩;have c2:=Kb 4 ⟨[],n,0⟩;refine eP Tryz.func91 ?_;refine ar (c1) ?_;refine gO Tryz.func91 ?_;refine ar (c2) ?_;refine gO Tryz.func91 ?_;rfl
def uu (h:bN):List AV:=[.d (.sl (h.aB.map Host.enc)),.d (.sl (h.aG.map aX.enc)),.d (.str h.anchor.name),.d (.int .i64 h.anchor.type),.d (.int .i64 h.anchor.cV),.d (.sl (h.anchor.data.map Datum.enc)),.d (.sl (h.hints.map (.int .i64))),.d (.int .i64 h.bM),.d (.int .i64 h.fin)]
theorem T0:aq E 33 [] [] (fun a b=>a = .az [.agg (uu cG++[.d (.sl (eG.steps.map Step.enc)),.own 3 0,.d (.sl [])]),.d ur.enc]∧b=[.cells (uu cG++[.d (.sl (eG.steps.map Step.enc)),.own 3 0,.d .aD]),.cells [.d (.int .i64 1),.d (.sl (ur.ae.map Signed.enc)),.d (.str [])],.cells (uu cG),.arr 0 (63,4) (eG.gL.map Claim.enc)]):=by
 have c1:∀ n,au E 91 [.int .i64 n] (· = .agg [.str [120],.sl ((fw n).ae.map Signed.enc)]):=TZ;refine aq.norm ?_;refine aq.run ag (fn:=Tryz.f33) Tryz.func33 (body:=Tryz.f33.body.getD .skip) rfl (by decide) 2000 rfl ?_;(conv=>whnf);refine ar (c1 1) ?_;refine gO Tryz.func33 ?_;refine I.bU ag bV 2000 (by kernel_rfl) ?_;(conv=>whnf);refine aR (c1 2) ?_;refine gD ?_;refine aR (c1 2) ?_;(conv=>whnf);refine bF.run ag 1 ?_;(conv=>whnf);refine bF.at rfl ?_;(conv=>whnf);refine jx.own ag ?_;refine gD ?_;refine aR (c1 1) ?_;refine gD ?_;refine bp ⟨by decide,by decide,by decide,by decide⟩ ?_;refine gD ?_;refine And.intro (by kernel_rfl) ?_;(conv=>whnf);refine gO Tryz.func33 ?_;exact ⟨rfl,rfl⟩
end Go.Proofs.YtfmdaiojokniiaaGreatDoor.P
end
section
namespace Go.Proofs.YtfmdaiojokniiaaGreatDoor.P
open Go Go.aw
set_option maxRecDepth 100000
set_option maxHeartbeats 4000000
def gN:bN:={ cG with aG:=[⟨1,0,10,fw 1⟩,⟨1,10,100,fw 2⟩] }
theorem D' (k:Int) (d:Datum) (hd:d.text.length≤maxLen):(lW k d).set.Fits:=⟨by simp [lW,maxLen],by simp [lW],fun x hx=>by simp [lW] at hx; subst hx; exact hd⟩
theorem xt (n:Int):(fw n).Fits:=⟨by simp [fw,maxLen],fun s hs=>by
 simp [fw] at hs;rcases hs with rfl | rfl
 ·exact D' _ _ (by simp [maxLen])
 ·exact D' _ _ (by simp [maxLen])⟩
theorem Kd:cG.anchor.Fits:=⟨by simp [cG,maxLen],by simp [cG],fun x hx=>by simp [cG] at hx; subst hx; simp [maxLen]⟩
theorem Ea {cs:List aX} {d:Int} (h:∀ c∈cs,∃ n,c.ay=fw n):({ cG with aG:=cs,bM:=d }:bN).Fits:=⟨fun x hx=>by
 simp [cG] at hx;rcases hx with rfl | rfl <;> simp [maxLen],Kd,by simp [cG,maxLen],fun c hc=>by
 obtain ⟨n,e⟩:=h c hc;rw [e]
 exact xt n⟩
theorem Ke:Steps.Fits eG.steps:=⟨fun s hs=>by
 simp [eG] at hs;subst hs
 exact ⟨fun p hp=>by simp at hp; subst hp; exact xt 2,by simp⟩,by simp [eG]⟩
theorem zU (l:List Claim) (b:Bool) (hl:oV.Fits l) (hb:(my cG eG.steps&&uj cG l)=b):aq E 20 [.arr 0 (63,4) (l.map Claim.enc)] [.agg (uu cG++[.d (.sl (eG.steps.map Step.enc)),.own 0 0,.d (.sl [])])] (fun x h=>x = .d (.bool b)∧h=[.arr 0 (63,4) (l.map Claim.enc)]):=by
 have c1:=RV ⟨cG,eG.steps,l,[]⟩ (Ea (cs:=cG.aG) fun c hc=>⟨1,by simp [cG] at hc; subst hc; rfl⟩) (by simp [cG]) Ke hl.b (.inl rfl);simp only [hb] at c1;exact au.T1 c1 rfl rfl rfl rfl
theorem Eb:(my cG eG.steps&&uj cG eG.gL)=true:=by decide +kernel
theorem Ec:oV.Fits eG.gL:=⟨by simp [eG,maxLen],fun c hc=>by simp [eG] at hc; subst hc; exact xt 2⟩
theorem Kg:au E 22 [cG.enc,.sl (eG.steps.map Step.enc)] (· = .az [gN.enc,.int .i64 0]):=by
 have c1:=Rq cG eG.steps (Ea (cs:=cG.aG) fun c hc=>⟨1,by simp [cG] at hc; subst hc; rfl⟩) (by decide) Ke
 rwa [show ug cG eG.steps=gN by decide +kernel,show applyN cG eG.steps=0 by decide +kernel] at c1
theorem T3:aq E 15 [.arr 0 (63,4) (eG.gL.map Claim.enc)] [.agg (uu cG++[.d (.sl (eG.steps.map Step.enc)),.own 0 0,.d (.sl [])])] (fun x h=>x = .az [.d gN.enc,.d (.int .i64 0)]∧h=[.arr 0 (63,4) (eG.gL.map Claim.enc)]):=by
 have c1:=zU eG.gL true Ec Eb;have c2:=Kg;apply aq.jD
 case hk=>rfl
 refine aq.run ag (fn:=Tryz.f15) Tryz.func15 (body:=Tryz.f15.body.getD .skip) rfl (by decide) 2000 rfl ?_;(conv=>whnf);refine bC c1 ?_;refine gO Tryz.func15 ?_;refine aN ?_;refine gO Tryz.func15 ?_;refine ar c2 ?_;refine gO Tryz.func15 ?_;exact ⟨rfl,rfl⟩
theorem T4 (c:Claim):aq E 37 [.cells [.d .aD],.cells [.d (.bool false)]] [.d c.enc,.ptr 0 0,.ptr 1 0] (fun x h=>x = .az []∧h=[.cells [.d (.sl [Step.enc ⟨c.time,⟨[⟨c.host,c.ay⟩]⟩⟩])],.cells [.d (.bool false)]]):=by
 obtain ⟨ch,ct,⟨za,zs⟩⟩:=c;show aq E _ _ [.d (DV.agg [.int .i64 ch,.int .i64 ct,.str za,.sl (zs.map Signed.enc)]),_,_] _;apply aq.jD
 case hk=>rfl
 refine aq.run ag (fn:=Tryz.f37) Tryz.func37 (body:=Tryz.f37.body.getD .skip) rfl (by decide) 2000 rfl ?_;(conv=>whnf);refine I.np 0 0 (57,2) (by decide) rfl rfl ?_;refine gO Tryz.func37 ?_;refine I.bU ag bV 2000 (by kernel_rfl) ?_;(conv=>whnf);refine bg (by decide) ?_;refine gD ?_;refine gO Tryz.func37 ?_;refine aY ?_;refine gO Tryz.func37 ?_;refine bp ⟨by simp,by simp [DV.cells]⟩ ?_;refine gO Tryz.func37 ?_;refine bp (of_decide_eq_true rfl) ?_;refine gO Tryz.func37 ?_;refine I.bU ag bV 2000 (by kernel_rfl) ?_;(conv=>whnf);refine aT (e := .agg [.int .i64 ct,.aD]) ⟨of_decide_eq_true rfl,rfl⟩ rfl ?_;(conv=>whnf);refine bF.run ag 1 ?_;(conv=>whnf);refine bF.run ag 1 ?_;(conv=>whnf);refine bF.run ag 1 ?_;(conv=>whnf);refine bF.run ag 1 ?_;(conv=>whnf);refine bF.run ag 1 ?_;(conv=>whnf);refine bF.run ag 1 ?_;(conv=>whnf);refine bF.at rfl ?_;(conv=>whnf);refine jx.op (T2 ag rfl rfl rfl rfl rfl rfl rfl rfl rfl rfl (aM rfl) (aM rfl) (by simp [DV.cells]) (by simp)) ?_;refine gD ?_;refine aT (e := .agg [.int .i64 ct,.aD]) ⟨of_decide_eq_true rfl,rfl⟩ rfl ?_;refine gD ?_;refine And.intro (by kernel_rfl) ?_;(conv=>whnf);refine gO Tryz.func37 ?_;refine aW rfl ?_;refine gO Tryz.func37 ?_;refine aW rfl ?_;refine gO Tryz.func37 ?_;refine aT (e := .agg [.int .i64 ct,.sl [.agg [.int .i64 ch,.str za,.sl (zs.map Signed.enc)]]]) ⟨of_decide_eq_true rfl,rfl⟩ rfl ?_;(conv=>whnf);refine I.run ag Tryz.func37 4 ?_;(conv=>whnf);refine I.freeze 3 ?_;(conv=>whnf);refine gO Tryz.func37 ?_;exact ⟨rfl,rfl⟩
theorem T5:aq E 13 [.arr 0 (63,4) (eG.gL.map Claim.enc)] [.agg (uu cG++[.d (.sl (eG.steps.map Step.enc)),.own 0 0,.d (.sl [])])] (fun x h=>x = .az [.d gN.enc,.d (.int .i64 0)]∧h=[.arr 0 (63,4) (eG.gL.map Claim.enc)]):=by
 have c1:=zU eG.gL true Ec Eb;have c2:=Kg;apply aq.jD
 case hk=>rfl
 refine aq.run ag (fn:=Tryz.f13) Tryz.func13 (body:=Tryz.f13.body.getD .skip) rfl (by decide) 2000 rfl ?_;(conv=>whnf);refine bC c1 ?_;refine gO Tryz.func13 ?_;refine aN ?_;refine gO Tryz.func13 ?_;refine I.jV ?_;refine I.run ag Tryz.func13 2000 ?_;(conv=>whnf);refine bg rfl ?_;refine gO Tryz.func13 ?_;refine bp (of_decide_eq_true rfl) ?_;refine gO Tryz.func13 ?_;refine aT (e:=Claim.enc ⟨1,10,fw 2⟩) ⟨of_decide_eq_true rfl,rfl⟩ rfl ?_;refine gO Tryz.func13 ?_;refine bC (T4 ⟨1,10,fw 2⟩) ?_;refine gO Tryz.func13 ?_;refine I.again ?_;refine I.run ag Tryz.func13 2000 ?_;(conv=>whnf);refine aW rfl ?_;refine gO Tryz.func13 ?_;refine aN ?_;refine gO Tryz.func13 ?_;refine ar c2 ?_;refine gO Tryz.func13 ?_;exact ⟨rfl,rfl⟩
end Go.Proofs.YtfmdaiojokniiaaGreatDoor.P
end
section
namespace Go.Proofs.YtfmdaiojokniiaaGreatDoor.P
open Go Go.aw
set_option maxRecDepth 100000
set_option maxHeartbeats 4000000
def lX (h:bN) (x:c9) (i:Nat) (t:Int):dj × Int:=match eh (dV h x i) t with
 | []=>(⟨7,[],[]⟩,0)
 |p::_=>(jG p.ay x.q,mD p.ay x.q)
def cQ (a:Int):c9:=⟨12,a,⟨[120],4⟩,ur⟩
def dz (d:Int):bN:={ gN with bM:=d }
theorem Kh (d:Int):(dz d).Fits:=Ea fun c hc=>by
 simp [gN,cG] at hc;rcases hc with rfl | rfl
 ·exact ⟨1,rfl⟩
 ·exact ⟨2,rfl⟩
theorem Ki (y:Host) (l:List bj) (hy:y.name.length≤maxLen) (hl:∀ p∈l,∃ n,p.ay=fw n):(⟨[y],l,cG.anchor,[1]⟩:kP).Fits:=⟨fun x hx=>by simp at hx; subst hx; exact hy,Kd,by simp [maxLen],fun p hp=>by
 obtain ⟨n,e⟩:=hl p hp;rw [e]
 exact xt n⟩
theorem Kj (a:Int):(cQ a).eF:=⟨by simp [cQ,maxLen],by simp [cQ,ur,maxLen],fun s hs=>by
 simp [cQ,ur] at hs;subst hs
 exact ⟨D' _ _ (by simp [maxLen]),by simp [lW,maxLen],by simp [lW]⟩,by simp [cQ,ur,maxLen]⟩
theorem T6 {l:List Int} (h:l.Pairwise (· ≤ ·)):eY l=l:=(rZ l).eq_of_pairwise (fun _ _ _ _ p q=>Int.le_antisymm p q) (DN l) h
theorem zV (d:Int) (i:Nat) {l:List Int} (h:dP [] (ki (jg (dz d) (cQ 2)) (nL (dz d) (cQ 2)) (dV (dz d) (cQ 2) i))=l) (hl:l.Pairwise (· ≤ ·)):iL (dz d) (cQ 2) i=l:=by
 unfold iL;rw [h,T6 hl]
theorem t1:iL (dz 2) (cQ 2) 0=[10]:=zV _ _ (by decide +kernel) (by decide)
theorem t2:iL (dz 2) (cQ 2) 1=[10]:=zV _ _ (by decide +kernel) (by decide)
theorem t3:iL (dz 3) (cQ 2) 0=[9]:=zV _ _ (by decide +kernel) (by decide)
theorem t4:iL (dz 3) (cQ 2) 1=[9,10]:=zV _ _ (by decide +kernel) (by decide)
theorem Kk {ask:Nat→Int→dj × Int} {h:bN} {x:c9} {a b:Bool} (hl:h.aB.length=2) (hv:(ez h&&iK x && !qd x.answer)=true) (h0:eZ ask h x 0=a) (h1:eZ ask h x 1=b):fa ask h x=(if a then [0] else [])++if b then [1] else []:=by
 unfold fa;rw [hv,if_pos rfl,hl,show List.range 2=[0,1] from rfl];subst h0;subst h1;simp only [List.filter];cases eZ ask h x 0 <;> cases eZ ask h x 1 <;> rfl
theorem t5:fa (lX (dz 2) (cQ 2)) (dz 2) (cQ 2)=[]:=Kk (a:=false) (b:=false) rfl (by decide +kernel) (by unfold eZ; rw [t1]; decide +kernel) (by unfold eZ; rw [t2]; decide +kernel)
theorem t6:fa (lX (dz 3) (cQ 2)) (dz 3) (cQ 2)=[1]:=Kk (a:=false) (b:=true) rfl (by decide +kernel) (by unfold eZ; rw [t3]; decide +kernel) (by unfold eZ; rw [t4]; decide +kernel)
theorem t7:kV (dz 2) (cQ 2)=0∧kV (dz 3) (cQ 2)=0∧iK (cQ 0)=false:=by decide +kernel
theorem T7 (d:Int) (i:Nat) (y:Host) (t:Int) (hy:y=⟨[97],1,0⟩∨y=⟨[98],2,0⟩) (hz:eh (dV (dz d) (cQ 2) i) t=[]∨∃ n,(n=1∨n=2)∧eh (dV (dz d) (cQ 2) i) t=[⟨0,fw n⟩]):au E 31 [.agg [.sl [y.enc],.sl ((eh (dV (dz d) (cQ 2) i) t).map bj.enc),.str cG.anchor.name,.int .i64 cG.anchor.type,.int .i64 cG.anchor.cV,.sl (cG.anchor.data.map Datum.enc),.sl ([1].map (.int .i64))],.int .i64 y.addr,.agg [.str [120],.int .i64 4]] (· = .az [.agg [.int .i64 (lX (dz d) (cQ 2) i t).1.kind,.sl ((lX (dz d) (cQ 2) i t).1.ae.map Signed.enc),.str (lX (dz d) (cQ 2) i t).1.cut],.int .i64 (lX (dz d) (cQ 2) i t).2])∧(lX (dz d) (cQ 2) i t).1.ae.length≤2147483648∧∀ s∈(lX (dz d) (cQ 2) i t).1.ae,s.set.data.length≤2147483648∧s.sigs.length≤2147483648:=by
 have hn:y.name.length≤maxLen:=by rcases hy with rfl | rfl <;> simp [maxLen]
 unfold lX;rcases hz with e | ⟨n,oN,e⟩
 ·rw [e];refine ⟨TW y cG.anchor [1] ⟨[120],4⟩ (Ki y [] hn (by simp)) ?_ (by decide +kernel) (by simp [maxLen]),by simp,by simp⟩;rcases hy with rfl | rfl <;> decide +kernel
 ·rw [e];refine ⟨TX y (fw n) cG.anchor [1] ⟨[120],4⟩ (Ki y [⟨0,fw n⟩] hn (fun p hp=>⟨n,by simp at hp; subst hp; rfl⟩)) ?_ (by decide +kernel) (by simp [maxLen]) (by rcases oN with rfl | rfl <;> decide +kernel),?_⟩
  ·rcases hy with rfl | rfl <;> rcases oN with rfl | rfl <;> decide +kernel
  ·rcases oN with rfl | rfl <;> decide +kernel
theorem T8 (d:Int) (hd:d=2∨d=3) (i:Nat) (y:Host) (t:Int) (hy:cG.aB[i]? = some y) (ht:t∈iL (dz d) (cQ 2) i):(y=⟨[97],1,0⟩∨y=⟨[98],2,0⟩)∧(eh (dV (dz d) (cQ 2) i) t=[]∨∃ n,(n=1∨n=2)∧eh (dV (dz d) (cQ 2) i) t=[⟨0,fw n⟩]):=by
 rcases i with _ | _ | i
 ·refine ⟨.inl (by simpa [cG] using hy.symm),.inl ?_⟩;rcases hd with rfl | rfl
  ·rw [t1] at ht; simp at ht; subst ht; decide +kernel
  ·rw [t3] at ht; simp at ht; subst ht; decide +kernel
 ·refine ⟨.inr (by simpa [cG] using hy.symm),.inr ?_⟩;rcases hd with rfl | rfl
  ·rw [t2] at ht; simp at ht; subst ht; exact ⟨2,by decide +kernel⟩
  ·rw [t4] at ht;simp at ht;rcases ht with rfl | rfl
   ·exact ⟨1,by decide +kernel⟩
   ·exact ⟨2,by decide +kernel⟩
 ·simp [cG] at hy
theorem Kl (d:Int) (hd:d=2∨d=3):au E 17 [(dz d).enc,(cQ 2).enc] (· = .az [.sl ((fa (lX (dz d) (cQ 2)) (dz d) (cQ 2)).map (.int .i64)),.int .i64 (kV (dz d) (cQ 2))]) :=
 DQ (dz d) (cQ 2) (lX (dz d) (cQ 2)) (Kh d) (by simp [dz,gN]) (Kj 2) fun i y t hy _ _ ht=>by
  obtain ⟨h1,h2⟩:=T8 d hd i y t hy ht;exact T7 d i y t h1 h2
theorem T9:au E 17 [gN.enc,(cQ 0).enc] (· = .az [.sl [],.int .i64 1]):=by
 have c:=DQ gN (cQ 0) (lX gN (cQ 0)) (Kh 2) (by simp [gN]) (Kj 0) fun i y t _ _ hr _=>by rw [t7.2.2] at hr; cases hr
 unfold fa kV at c
 simpa [t7.2.2] using c
theorem Km (n:Int):(fw n).kb:=⟨by simp [fw],fun s hs=>by
 simp [fw] at hs
 rcases hs with rfl | rfl <;> exact ⟨by simp [lW],by simp [lW]⟩⟩
theorem T':gN.kb:=⟨by simp [gN,cG],by simp [gN],by simp [gN,cG],by simp [gN,cG],fun c hc=>by
 simp [gN] at hc;rcases hc with rfl | rfl
 ·exact Km 1
 ·exact Km 2⟩
theorem Ed:au E 9 [] (· = .bool true):=by
 have c1:=T0;have c2:=Kl 2 (.inl rfl);have c3:=Kl 3 (.inr rfl);have c4:=T9;have c5:=Ru gN gN T';rw [decide_eq_true rfl] at c5;have c6:=Ji [1] 1 (by simp [maxLen]);rw [t5,t7.1] at c2;rw [t6,t7.2.1] at c3;refine eP Tryz.func9 ?_;refine vH (c1) rfl ?_;refine gO Tryz.func9 ?_;refine bC T3 ?_;refine gO Tryz.func9 ?_;refine bC T5 ?_;refine gO Tryz.func9 ?_;refine ar c2 ?_;refine gO Tryz.func9 ?_;refine ar c3 ?_;refine gO Tryz.func9 ?_;refine ar c4 ?_;refine gO Tryz.func9 ?_;refine bg (by decide) ?_;refine gO Tryz.func9 ?_;refine bg (by decide) ?_;refine gO Tryz.func9 ?_;refine bg (by decide) ?_;refine gO Tryz.func9 ?_;refine bg (by decide) ?_;refine gO Tryz.func9 ?_;refine bg (by decide) ?_;refine gO Tryz.func9 ?_;refine ar c5 ?_;refine gO Tryz.func9 ?_;refine bg rfl ?_;refine gO Tryz.func9 ?_;refine bg rfl ?_;refine gO Tryz.func9 ?_;refine bg rfl ?_;refine gO Tryz.func9 ?_;refine bg rfl ?_;refine gO Tryz.func9 ?_;refine ar c6 ?_;refine gO Tryz.func9 ?_;refine bg rfl ?_;refine gO Tryz.func9 ?_;refine bC (zU eG.gL true Ec Eb) ?_;refine gO Tryz.func9 ?_;refine bp (of_decide_eq_true rfl) ?_;refine gO Tryz.func9 ?_;refine aT (e:=Claim.enc ⟨1,10,fw 2⟩) ⟨of_decide_eq_true rfl,rfl⟩ rfl ?_;refine gO Tryz.func9 ?_;refine aY ?_;refine gO Tryz.func9 ?_;refine bC (zU [⟨2,10,fw 2⟩] false ⟨by simp [maxLen],fun c hc=>by simp at hc; subst hc; exact xt 2⟩ (by decide +kernel)) ?_;refine gO Tryz.func9 ?_;rfl
end Go.Proofs.YtfmdaiojokniiaaGreatDoor.P
end
