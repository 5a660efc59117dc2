/- Several texts of mine, one behind the other. Conditions: as each says. -/
import Derived.Test.YtfmdaiojokniiaaGreatDoorV43
import Derived.Test.YtfmdaiojokniiaaGreatDoorV44
set_option linter.unusedVariables false
set_option linter.unusedSimpArgs false
section
namespace Go.Proofs.YtfmdaiojokniiaaGreatDoor.P
open Go Go.aw
set_option maxRecDepth 100000
set_option maxHeartbeats 4000000
def mQ (kind:Int) (d:Datum):Signed:=⟨⟨[120],kind,9,[d]⟩,[]⟩
def fK (n:Int):aG:=⟨[120],[mQ 2 ⟨[98],0,0⟩,mQ 4 ⟨[],n,0⟩]⟩
def cK:bJ:=⟨[⟨[97],1,0⟩,⟨[98],2,0⟩],[⟨1,0,100,fK 1⟩],⟨[46],6,0,[⟨[],1,1⟩]⟩,[1],2,100⟩
def eT:qW:=⟨cK,[⟨10,⟨[⟨1,fK 2⟩]⟩⟩],[⟨1,10,fK 2⟩],[]⟩
def vy:dC:=⟨1,[mQ 4 ⟨[],1,0⟩],[]⟩
theorem Lr (kind:Int) (d:Datum):aq E 92 [.int .i64 kind,d.enc] (· = (mQ kind d).enc):=by
 obtain ⟨x,y,z⟩:=d;refine aq.norm ?_;show aq E _ [.int .i64 kind,DV.agg [.str x,.int .i64 y,.int .i64 z]] _;refine eP Tryz.func92 ?_;rfl
theorem VF (n:Int):aq E 91 [.int .i64 n] (· = (fK n).enc):=by
 have c1:=Lr 2 ⟨[98],0,0⟩;have c2:=Lr 4 ⟨[],n,0⟩;refine eP Tryz.func91 ?_;refine ao (c1) ?_;refine gO Tryz.func91 ?_;refine ao (c2) ?_;refine gO Tryz.func91 ?_;rfl
def vz (h:bJ):List AV:=[.d (.sl (h.aA.map Host.enc)),.d (.sl (h.aB.map aS.enc)),.d (.str h.anchor.name),.d (.int .i64 h.anchor.type),.d (.int .i64 h.anchor.cD),.d (.sl (h.anchor.data.map Datum.enc)),.d (.sl (h.hints.map (.int .i64))),.d (.int .i64 h.bS),.d (.int .i64 h.fin)]
theorem VG:au E 33 [] [] (fun a b=>a = .aD [.agg (vz cK++[.d (.sl (eT.steps.map Step.enc)),.own 3 0,.d (.sl [])]),.d vy.enc]∧b=[.cells (vz cK++[.d (.sl (eT.steps.map Step.enc)),.own 3 0,.d .aH]),.cells [.d (.int .i64 1),.d (.sl (vy.ab.map Signed.enc)),.d (.str [])],.cells (vz cK),.arr 0 (63,4) (eT.ib.map Claim.enc)]):=by
 have c1:∀ n,aq E 91 [.int .i64 n] (· = .agg [.str [120],.sl ((fK n).ab.map Signed.enc)]):=VF;refine au.norm ?_;refine au.run af (fn:=Tryz.f33) Tryz.func33 (body:=Tryz.f33.body.getD .skip) rfl (by decide) 2000 rfl ?_;(conv=>whnf);refine ao (c1 1) ?_;refine gO Tryz.func33 ?_;refine I.bH af bI 2000 (by kernel_rfl) ?_;(conv=>whnf);refine ay (c1 2) ?_;refine gD ?_;refine ay (c1 2) ?_;(conv=>whnf);refine bG.run af 1 ?_;(conv=>whnf);refine bG.at rfl ?_;(conv=>whnf);refine jX.own af ?_;refine gD ?_;refine ay (c1 1) ?_;refine gD ?_;refine a8 ⟨by decide,by decide,by decide,by decide⟩ ?_;refine gD ?_;refine And.intro (by kernel_rfl) ?_;(conv=>whnf);refine gO Tryz.func33 ?_;exact ⟨rfl,rfl⟩
end Go.Proofs.YtfmdaiojokniiaaGreatDoor.P
end
section
namespace Go.Proofs.YtfmdaiojokniiaaGreatDoor.P
open Go Go.aw
set_option maxRecDepth 100000
set_option maxHeartbeats 4000000
def ie:bJ:={ cK with aB:=[⟨1,0,10,fK 1⟩,⟨1,10,100,fK 2⟩] }
theorem Ff (k:Int) (d:Datum) (hd:d.text.length≤maxLen):(mQ k d).set.Fits:=⟨by simp [mQ,maxLen],by simp [mQ],fun x hx=>by simp [mQ] at hx; subst hx; exact hd⟩
theorem yp (n:Int):(fK n).Fits:=⟨by simp [fK,maxLen],fun s hs=>by
 simp [fK] at hs;rcases hs with rfl | rfl
 ·exact Ff _ _ (by simp [maxLen])
 ·exact Ff _ _ (by simp [maxLen])⟩
theorem Lt:cK.anchor.Fits:=⟨by simp [cK,maxLen],by simp [cK],fun x hx=>by simp [cK] at hx; subst hx; simp [maxLen]⟩
theorem Fg {cs:List aS} {d:Int} (h:∀ c∈cs,∃ n,c.az=fK n):({ cK with aB:=cs,bS:=d }:bJ).Fits:=⟨fun x hx=>by
 simp [cK] at hx;rcases hx with rfl | rfl <;> simp [maxLen],Lt,by simp [cK,maxLen],fun c hc=>by
 obtain ⟨n,e⟩:=h c hc;rw [e]
 exact yp n⟩
theorem Lu:Steps.Fits eT.steps:=⟨fun s hs=>by
 simp [eT] at hs;subst hs
 exact ⟨fun p hp=>by simp at hp; subst hp; exact yp 2,by simp⟩,by simp [eT]⟩
theorem AX (l:List Claim) (b:Bool) (hl:pO.Fits l) (hb:(nC cK eT.steps&&vt cK l)=b):au E 20 [.arr 0 (63,4) (l.map Claim.enc)] [.agg (vz cK++[.d (.sl (eT.steps.map Step.enc)),.own 0 0,.d (.sl [])])] (fun x h=>x = .d (.bool b)∧h=[.arr 0 (63,4) (l.map Claim.enc)]):=by
 have c1:=TF ⟨cK,eT.steps,l,[]⟩ (Fg (cs:=cK.aB) fun c hc=>⟨1,by simp [cK] at hc; subst hc; rfl⟩) (by simp [cK]) Lu hl.b (.inl rfl);simp only [hb] at c1;exact aq.VH c1 rfl rfl rfl rfl
theorem Fh:(nC cK eT.steps&&vt cK eT.ib)=true:=by decide +kernel
theorem Fi:pO.Fits eT.ib:=⟨by simp [eT,maxLen],fun c hc=>by simp [eT] at hc; subst hc; exact yp 2⟩
theorem Lv:aq E 22 [cK.enc,.sl (eT.steps.map Step.enc)] (· = .aD [ie.enc,.int .i64 0]):=by
 have c1:=S9 cK eT.steps (Fg (cs:=cK.aB) fun c hc=>⟨1,by simp [cK] at hc; subst hc; rfl⟩) (by decide) Lu
 rwa [show vk cK eT.steps=ie by decide +kernel,show applyN cK eT.steps=0 by decide +kernel] at c1
theorem VJ:au E 15 [.arr 0 (63,4) (eT.ib.map Claim.enc)] [.agg (vz cK++[.d (.sl (eT.steps.map Step.enc)),.own 0 0,.d (.sl [])])] (fun x h=>x = .aD [.d ie.enc,.d (.int .i64 0)]∧h=[.arr 0 (63,4) (eT.ib.map Claim.enc)]):=by
 have c1:=AX eT.ib true Fi Fh;have c2:=Lv;apply au.kf
 case hk=>rfl
 refine au.run af (fn:=Tryz.f15) Tryz.func15 (body:=Tryz.f15.body.getD .skip) rfl (by decide) 2000 rfl ?_;(conv=>whnf);refine bD c1 ?_;refine gO Tryz.func15 ?_;refine aQ ?_;refine gO Tryz.func15 ?_;refine ao c2 ?_;refine gO Tryz.func15 ?_;exact ⟨rfl,rfl⟩
theorem VK (c:Claim):au E 37 [.cells [.d .aH],.cells [.d (.bool false)]] [.d c.enc,.ptr 0 0,.ptr 1 0] (fun x h=>x = .aD []∧h=[.cells [.d (.sl [Step.enc ⟨c.time,⟨[⟨c.host,c.az⟩]⟩⟩])],.cells [.d (.bool false)]]):=by
 obtain ⟨ch,ct,⟨za,zs⟩⟩:=c;show au E _ _ [.d (DV.agg [.int .i64 ch,.int .i64 ct,.str za,.sl (zs.map Signed.enc)]),_,_] _;apply au.kf
 case hk=>rfl
 refine au.run af (fn:=Tryz.f37) Tryz.func37 (body:=Tryz.f37.body.getD .skip) rfl (by decide) 2000 rfl ?_;(conv=>whnf);refine I.mB 0 0 (57,2) (by decide) rfl rfl ?_;refine gO Tryz.func37 ?_;refine I.bH af bI 2000 (by kernel_rfl) ?_;(conv=>whnf);refine bh (by decide) ?_;refine gD ?_;refine gO Tryz.func37 ?_;refine aV ?_;refine gO Tryz.func37 ?_;refine a8 ⟨by simp,by simp [DV.cells]⟩ ?_;refine gO Tryz.func37 ?_;refine a8 (of_decide_eq_true rfl) ?_;refine gO Tryz.func37 ?_;refine I.bH af bI 2000 (by kernel_rfl) ?_;(conv=>whnf);refine aE (e := .agg [.int .i64 ct,.aH]) ⟨of_decide_eq_true rfl,rfl⟩ rfl ?_;(conv=>whnf);refine bG.run af 1 ?_;(conv=>whnf);refine bG.run af 1 ?_;(conv=>whnf);refine bG.run af 1 ?_;(conv=>whnf);refine bG.run af 1 ?_;(conv=>whnf);refine bG.run af 1 ?_;(conv=>whnf);refine bG.run af 1 ?_;(conv=>whnf);refine bG.at rfl ?_;(conv=>whnf);refine jX.op (VI af rfl rfl rfl rfl rfl rfl rfl rfl rfl rfl (aP rfl) (aP rfl) (by simp [DV.cells]) (by simp)) ?_;refine gD ?_;refine aE (e := .agg [.int .i64 ct,.aH]) ⟨of_decide_eq_true rfl,rfl⟩ rfl ?_;refine gD ?_;refine And.intro (by kernel_rfl) ?_;(conv=>whnf);refine gO Tryz.func37 ?_;refine aZ rfl ?_;refine gO Tryz.func37 ?_;refine aZ rfl ?_;refine gO Tryz.func37 ?_;refine aE (e := .agg [.int .i64 ct,.sl [.agg [.int .i64 ch,.str za,.sl (zs.map Signed.enc)]]]) ⟨of_decide_eq_true rfl,rfl⟩ rfl ?_;(conv=>whnf);refine I.run af Tryz.func37 4 ?_;(conv=>whnf);refine I.freeze 3 ?_;(conv=>whnf);refine gO Tryz.func37 ?_;exact ⟨rfl,rfl⟩
theorem VM:au E 13 [.arr 0 (63,4) (eT.ib.map Claim.enc)] [.agg (vz cK++[.d (.sl (eT.steps.map Step.enc)),.own 0 0,.d (.sl [])])] (fun x h=>x = .aD [.d ie.enc,.d (.int .i64 0)]∧h=[.arr 0 (63,4) (eT.ib.map Claim.enc)]):=by
 have c1:=AX eT.ib true Fi Fh;have c2:=Lv;apply au.kf
 case hk=>rfl
 refine au.run af (fn:=Tryz.f13) Tryz.func13 (body:=Tryz.f13.body.getD .skip) rfl (by decide) 2000 rfl ?_;(conv=>whnf);refine bD c1 ?_;refine gO Tryz.func13 ?_;refine aQ ?_;refine gO Tryz.func13 ?_;refine I.mw ?_;refine I.run af Tryz.func13 2000 ?_;(conv=>whnf);refine bh rfl ?_;refine gO Tryz.func13 ?_;refine a8 (of_decide_eq_true rfl) ?_;refine gO Tryz.func13 ?_;refine aE (e:=Claim.enc ⟨1,10,fK 2⟩) ⟨of_decide_eq_true rfl,rfl⟩ rfl ?_;refine gO Tryz.func13 ?_;refine bD (VK ⟨1,10,fK 2⟩) ?_;refine gO Tryz.func13 ?_;refine I.again ?_;refine I.run af Tryz.func13 2000 ?_;(conv=>whnf);refine aZ rfl ?_;refine gO Tryz.func13 ?_;refine aQ ?_;refine gO Tryz.func13 ?_;refine ao c2 ?_;refine gO Tryz.func13 ?_;exact ⟨rfl,rfl⟩
end Go.Proofs.YtfmdaiojokniiaaGreatDoor.P
end
section
namespace Go.Proofs.YtfmdaiojokniiaaGreatDoor.P
open Go Go.aw
set_option maxRecDepth 100000
set_option maxHeartbeats 4000000
def mR (h:bJ) (x:dF) (i:Nat) (t:Int):dC × Int:=match eD (eS h x i) t with
 | []=>(⟨7,[],[]⟩,0)
 |p::_=>(fJ p.az x.q,kj p.az x.q)
def cU (a:Int):dF:=⟨12,a,⟨[120],4⟩,vy⟩
def dG (d:Int):bJ:={ ie with bS:=d }
theorem Lw (d:Int):(dG d).Fits:=Fg fun c hc=>by
 simp [ie,cK] at hc;rcases hc with rfl | rfl
 ·exact ⟨1,rfl⟩
 ·exact ⟨2,rfl⟩
theorem Lx (y:Host) (l:List bo) (hy:y.name.length≤maxLen) (hl:∀ p∈l,∃ n,p.az=fK n):(⟨[y],l,cK.anchor,[1]⟩:jE).Fits:=⟨fun x hx=>by simp at hx; subst hx; exact hy,Lt,by simp [maxLen],fun p hp=>by
 obtain ⟨n,e⟩:=hl p hp;rw [e]
 exact yp n⟩
theorem Ly (a:Int):(cU a).ep:=⟨by simp [cU,maxLen],by simp [cU,vy,maxLen],fun s hs=>by
 simp [cU,vy] at hs;subst hs
 exact ⟨Ff _ _ (by simp [maxLen]),by simp [mQ,maxLen],by simp [mQ]⟩,by simp [cU,vy,maxLen]⟩
theorem VN {l:List Int} (h:l.Pairwise (· ≤ ·)):fu l=l:=(s7 l).eq_of_pairwise (fun _ _ _ _ p q=>Int.le_antisymm p q) (ET l) h
theorem AY (d:Int) (i:Nat) {l:List Int} (h:dv [] (kU (kh (dG d) (cU 2)) (pP (dG d) (cU 2)) (eS (dG d) (cU 2) i))=l) (hl:l.Pairwise (· ≤ ·)):jl (dG d) (cU 2) i=l:=by
 unfold jl;rw [h,VN hl]
theorem t1:jl (dG 2) (cU 2) 0=[10]:=AY _ _ (by decide +kernel) (by decide)
theorem t2:jl (dG 2) (cU 2) 1=[10]:=AY _ _ (by decide +kernel) (by decide)
theorem t3:jl (dG 3) (cU 2) 0=[9]:=AY _ _ (by decide +kernel) (by decide)
theorem t4:jl (dG 3) (cU 2) 1=[9,10]:=AY _ _ (by decide +kernel) (by decide)
theorem LA {ask:Nat→Int→dC × Int} {h:bJ} {x:dF} {a b:Bool} (hl:h.aA.length=2) (hv:(dg h&&jk x && !lX x.answer)=true) (h0:gu ask h x 0=a) (h1:gu ask h x 1=b):kW ask h x=(if a then [0] else [])++if b then [1] else []:=by
 unfold kW;rw [hv,if_pos rfl,hl,show List.range 2=[0,1] from rfl];subst h0;subst h1;simp only [List.filter];cases gu ask h x 0 <;> cases gu ask h x 1 <;> rfl
theorem t5:kW (mR (dG 2) (cU 2)) (dG 2) (cU 2)=[]:=LA (a:=false) (b:=false) rfl (by decide +kernel) (by unfold gu; rw [t1]; decide +kernel) (by unfold gu; rw [t2]; decide +kernel)
theorem t6:kW (mR (dG 3) (cU 2)) (dG 3) (cU 2)=[1]:=LA (a:=false) (b:=true) rfl (by decide +kernel) (by unfold gu; rw [t3]; decide +kernel) (by unfold gu; rw [t4]; decide +kernel)
theorem t7:nG (dG 2) (cU 2)=0∧nG (dG 3) (cU 2)=0∧jk (cU 0)=false:=by decide +kernel
theorem VO (d:Int) (i:Nat) (y:Host) (t:Int) (hy:y=⟨[97],1,0⟩∨y=⟨[98],2,0⟩) (hz:eD (eS (dG d) (cU 2) i) t=[]∨∃ n,(n=1∨n=2)∧eD (eS (dG d) (cU 2) i) t=[⟨0,fK n⟩]):aq E 31 [.agg [.sl [y.enc],.sl ((eD (eS (dG d) (cU 2) i) t).map bo.enc),.str cK.anchor.name,.int .i64 cK.anchor.type,.int .i64 cK.anchor.cD,.sl (cK.anchor.data.map Datum.enc),.sl ([1].map (.int .i64))],.int .i64 y.addr,.agg [.str [120],.int .i64 4]] (· = .aD [.agg [.int .i64 (mR (dG d) (cU 2) i t).1.kind,.sl ((mR (dG d) (cU 2) i t).1.ab.map Signed.enc),.str (mR (dG d) (cU 2) i t).1.cut],.int .i64 (mR (dG d) (cU 2) i t).2])∧(mR (dG d) (cU 2) i t).1.ab.length≤2147483648∧∀ s∈(mR (dG d) (cU 2) i t).1.ab,s.set.data.length≤2147483648∧s.sigs.length≤2147483648:=by
 have hn:y.name.length≤maxLen:=by rcases hy with rfl | rfl <;> simp [maxLen]
 unfold mR;rcases hz with e | ⟨n,fU,e⟩
 ·rw [e];refine ⟨VB y cK.anchor [1] ⟨[120],4⟩ (Lx y [] hn (by simp)) ?_ (by decide +kernel) (by simp [maxLen]),by simp,by simp⟩;rcases hy with rfl | rfl <;> decide +kernel
 ·rw [e];refine ⟨VC y (fK n) cK.anchor [1] ⟨[120],4⟩ (Lx y [⟨0,fK n⟩] hn (fun p hp=>⟨n,by simp at hp; subst hp; rfl⟩)) ?_ (by decide +kernel) (by simp [maxLen]) (by rcases fU with rfl | rfl <;> decide +kernel),?_⟩
  ·rcases hy with rfl | rfl <;> rcases fU with rfl | rfl <;> decide +kernel
  ·rcases fU with rfl | rfl <;> decide +kernel
theorem VP (d:Int) (hd:d=2∨d=3) (i:Nat) (y:Host) (t:Int) (hy:cK.aA[i]? = some y) (ht:t∈jl (dG d) (cU 2) i):(y=⟨[97],1,0⟩∨y=⟨[98],2,0⟩)∧(eD (eS (dG d) (cU 2) i) t=[]∨∃ n,(n=1∨n=2)∧eD (eS (dG d) (cU 2) i) t=[⟨0,fK n⟩]):=by
 rcases i with _ | _ | i
 ·refine ⟨.inl (by simpa [cK] using hy.symm),.inl ?_⟩;rcases hd with rfl | rfl
  ·rw [t1] at ht; simp at ht; subst ht; decide +kernel
  ·rw [t3] at ht; simp at ht; subst ht; decide +kernel
 ·refine ⟨.inr (by simpa [cK] using hy.symm),.inr ?_⟩;rcases hd with rfl | rfl
  ·rw [t2] at ht; simp at ht; subst ht; exact ⟨2,by decide +kernel⟩
  ·rw [t4] at ht;simp at ht;rcases ht with rfl | rfl
   ·exact ⟨1,by decide +kernel⟩
   ·exact ⟨2,by decide +kernel⟩
 ·simp [cK] at hy
theorem LB (d:Int) (hd:d=2∨d=3):aq E 17 [(dG d).enc,(cU 2).enc] (· = .aD [.sl ((kW (mR (dG d) (cU 2)) (dG d) (cU 2)).map (.int .i64)),.int .i64 (nG (dG d) (cU 2))]) :=
 EW (dG d) (cU 2) (mR (dG d) (cU 2)) (Lw d) (by simp [dG,ie]) (Ly 2) fun i y t hy _ _ ht=>by
  obtain ⟨h1,h2⟩:=VP d hd i y t hy ht;exact VO d i y t h1 h2
theorem VQ:aq E 17 [ie.enc,(cU 0).enc] (· = .aD [.sl [],.int .i64 1]):=by
 have c:=EW ie (cU 0) (mR ie (cU 0)) (Lw 2) (by simp [ie]) (Ly 0) fun i y t _ _ hr _=>by rw [t7.2.2] at hr; cases hr
 unfold kW nG at c
 simpa [t7.2.2] using c
theorem LC (n:Int):(fK n).kb:=⟨by simp [fK],fun s hs=>by
 simp [fK] at hs
 rcases hs with rfl | rfl <;> exact ⟨by simp [mQ],by simp [mQ]⟩⟩
theorem VT:ie.kb:=⟨by simp [ie,cK],by simp [ie],by simp [ie,cK],by simp [ie,cK],fun c hc=>by
 simp [ie] at hc;rcases hc with rfl | rfl
 ·exact LC 1
 ·exact LC 2⟩
theorem AZ:aq E 9 [] (· = .bool true):=by
 have c1:=VG;have c2:=LB 2 (.inl rfl);have c3:=LB 3 (.inr rfl);have c4:=VQ;have c5:=Tc ie ie VT;rw [decide_eq_true rfl] at c5;have c6:=Ky [1] 1 (by simp [maxLen]);rw [t5,t7.1] at c2;rw [t6,t7.2.1] at c3;refine eP Tryz.func9 ?_;refine wM (c1) rfl ?_;refine gO Tryz.func9 ?_;refine bD VJ ?_;refine gO Tryz.func9 ?_;refine bD VM ?_;refine gO Tryz.func9 ?_;refine ao c2 ?_;refine gO Tryz.func9 ?_;refine ao c3 ?_;refine gO Tryz.func9 ?_;refine ao c4 ?_;refine gO Tryz.func9 ?_;refine bh (by decide) ?_;refine gO Tryz.func9 ?_;refine bh (by decide) ?_;refine gO Tryz.func9 ?_;refine bh (by decide) ?_;refine gO Tryz.func9 ?_;refine bh (by decide) ?_;refine gO Tryz.func9 ?_;refine bh (by decide) ?_;refine gO Tryz.func9 ?_;refine ao c5 ?_;refine gO Tryz.func9 ?_;refine bh rfl ?_;refine gO Tryz.func9 ?_;refine bh rfl ?_;refine gO Tryz.func9 ?_;refine bh rfl ?_;refine gO Tryz.func9 ?_;refine bh rfl ?_;refine gO Tryz.func9 ?_;refine ao c6 ?_;refine gO Tryz.func9 ?_;refine bh rfl ?_;refine gO Tryz.func9 ?_;refine bD (AX eT.ib true Fi Fh) ?_;refine gO Tryz.func9 ?_;refine a8 (of_decide_eq_true rfl) ?_;refine gO Tryz.func9 ?_;refine aE (e:=Claim.enc ⟨1,10,fK 2⟩) ⟨of_decide_eq_true rfl,rfl⟩ rfl ?_;refine gO Tryz.func9 ?_;refine aV ?_;refine gO Tryz.func9 ?_;refine bD (AX [⟨2,10,fK 2⟩] false ⟨by simp [maxLen],fun c hc=>by simp at hc; subst hc; exact yp 2⟩ (by decide +kernel)) ?_;refine gO Tryz.func9 ?_;rfl
end Go.Proofs.YtfmdaiojokniiaaGreatDoor.P
end
