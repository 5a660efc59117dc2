/- Several texts of mine, one behind the other. Conditions: as each says. -/
import Derived.Test.YtfmdaiojokniiaaGreatDoorY47
import Derived.Test.YtfmdaiojokniiaaGreatDoorY48
set_option linter.unusedVariables false
set_option linter.unusedSimpArgs false
section
namespace Go.Proofs.YtfmdaiojokniiaaGreatDoor.P
open Go Go.ax
set_option maxRecDepth 100000
set_option maxHeartbeats 4000000
def mw (kind:Int) (d:Datum):Signed:=⟨⟨[120],kind,9,[d]⟩,[]⟩
def fD (n:Int):aR:=⟨[120],[mw 2 ⟨[98],0,0⟩,mw 4 ⟨[],n,0⟩]⟩
def cK:ca:=⟨[⟨[97],1,0⟩,⟨[98],2,0⟩],[⟨1,0,100,fD 1⟩],⟨[46],6,0,[⟨[],1,1⟩]⟩,[1],2,100⟩
def eM:fL:=⟨cK,[⟨10,⟨[⟨1,fD 2⟩]⟩⟩],[⟨1,10,fD 2⟩],[]⟩
def uY:dP:=⟨1,[mw 4 ⟨[],1,0⟩],[]⟩
theorem K4 (kind:Int) (d:Datum):aq E 92 [.int .i64 kind,d.enc] (· = (mw kind d).enc):=by
 obtain ⟨x,y,z⟩:=d;refine aq.norm ?_;show aq E _ [.int .i64 kind,DV.agg [.str x,.int .i64 y,.int .i64 z]] _;refine eP Tryz.func92 ?_;rfl
theorem Vo (n:Int):aq E 91 [.int .i64 n] (· = (fD n).enc):=by
 have c1:=K4 2 ⟨[98],0,0⟩;have c2:=K4 4 ⟨[],n,0⟩;refine eP Tryz.func91 ?_;refine ao (c1) ?_;refine gO Tryz.func91 ?_;refine ao (c2) ?_;refine gO Tryz.func91 ?_;rfl
def uZ (h:ca):List AV:=[.d (.sl (h.aA.map Host.enc)),.d (.sl (h.aI.map a7.enc)),.d (.str h.anchor.name),.d (.int .i64 h.anchor.type),.d (.int .i64 h.anchor.cD),.d (.sl (h.anchor.data.map Datum.enc)),.d (.sl (h.hints.map (.int .i64))),.d (.int .i64 h.bT),.d (.int .i64 h.fin)]
theorem Vp:aw E 33 [] [] (fun a b=>a = .aF [.agg (uZ cK++[.d (.sl (eM.steps.map Step.enc)),.own 3 0,.d (.sl [])]),.d uY.enc]∧b=[.cells (uZ cK++[.d (.sl (eM.steps.map Step.enc)),.own 3 0,.d .aL]),.cells [.d (.int .i64 1),.d (.sl (uY.ab.map Signed.enc)),.d (.str [])],.cells (uZ cK),.arr 0 (63,4) (eM.cw.map Claim.enc)]):=by
 have c1:∀ n,aq E 91 [.int .i64 n] (· = .agg [.str [120],.sl ((fD n).ab.map Signed.enc)]):=Vo;refine aw.norm ?_;refine aw.run af (fn:=Tryz.f33) Tryz.func33 (body:=Tryz.f33.body.getD .skip) rfl (by decide) 2000 rfl ?_;(conv=>whnf);refine ao (c1 1) ?_;refine gO Tryz.func33 ?_;refine I.bH af bI 2000 (by kernel_rfl) ?_;(conv=>whnf);refine au (c1 2) ?_;refine gD ?_;refine au (c1 2) ?_;(conv=>whnf);refine bG.run af 1 ?_;(conv=>whnf);refine bG.at rfl ?_;(conv=>whnf);refine jP.own af ?_;refine gD ?_;refine au (c1 1) ?_;refine gD ?_;refine bc ⟨by decide,by decide,by decide,by decide⟩ ?_;refine gD ?_;refine And.intro (by kernel_rfl) ?_;(conv=>whnf);refine gO Tryz.func33 ?_;exact ⟨rfl,rfl⟩
end Go.Proofs.YtfmdaiojokniiaaGreatDoor.P
end
section
namespace Go.Proofs.YtfmdaiojokniiaaGreatDoor.P
open Go Go.ax
set_option maxRecDepth 100000
set_option maxHeartbeats 4000000
def gZ:ca:={ cK with aI:=[⟨1,0,10,fD 1⟩,⟨1,10,100,fD 2⟩] }
theorem EM (k:Int) (d:Datum) (hd:d.text.length≤maxLen):(mw k d).set.Fits:=⟨by simp [mw,maxLen],by simp [mw],fun x hx=>by simp [mw] at hx; subst hx; exact hd⟩
theorem xZ (n:Int):(fD n).Fits:=⟨by simp [fD,maxLen],fun s hs=>by
 simp [fD] at hs;rcases hs with rfl | rfl
 ·exact EM _ _ (by simp [maxLen])
 ·exact EM _ _ (by simp [maxLen])⟩
theorem K6:cK.anchor.Fits:=⟨by simp [cK,maxLen],by simp [cK],fun x hx=>by simp [cK] at hx; subst hx; simp [maxLen]⟩
theorem EN {cs:List a7} {d:Int} (h:∀ c∈cs,∃ n,c.az=fD n):({ cK with aI:=cs,bT:=d }:ca).Fits:=⟨fun x hx=>by
 simp [cK] at hx;rcases hx with rfl | rfl <;> simp [maxLen],K6,by simp [cK,maxLen],fun c hc=>by
 obtain ⟨n,e⟩:=h c hc;rw [e]
 exact xZ n⟩
theorem K7:Steps.Fits eM.steps:=⟨fun s hs=>by
 simp [eM] at hs;subst hs
 exact ⟨fun p hp=>by simp at hp; subst hp; exact xZ 2,by simp⟩,by simp [eM]⟩
theorem AF (l:List Claim) (b:Bool) (hl:mZ.Fits l) (hb:(kH cK eM.steps&&kI cK l)=b):aw E 20 [.arr 0 (63,4) (l.map Claim.enc)] [.agg (uZ cK++[.d (.sl (eM.steps.map Step.enc)),.own 0 0,.d (.sl [])])] (fun x h=>x = .d (.bool b)∧h=[.arr 0 (63,4) (l.map Claim.enc)]):=by
 have c1:=J9 ⟨cK,eM.steps,l,[]⟩ (EN (cs:=cK.aI) fun c hc=>⟨1,by simp [cK] at hc; subst hc; rfl⟩) (by simp [cK]) K7 hl.b (.inl rfl);simp only [hb] at c1;exact aq.Vq c1 rfl rfl rfl rfl
theorem EO:(kH cK eM.steps&&kI cK eM.cw)=true:=by decide +kernel
theorem EP:mZ.Fits eM.cw:=⟨by simp [eM,maxLen],fun c hc=>by simp [eM] at hc; subst hc; exact xZ 2⟩
theorem K8:aq E 22 [cK.enc,.sl (eM.steps.map Step.enc)] (· = .aF [gZ.enc,.int .i64 0]):=by
 have c1:=Sz cK eM.steps (EN (cs:=cK.aI) fun c hc=>⟨1,by simp [cK] at hc; subst hc; rfl⟩) (by decide) K7
 rwa [show uM cK eM.steps=gZ by decide +kernel,show applyN cK eM.steps=0 by decide +kernel] at c1
theorem Vs:aw E 15 [.arr 0 (63,4) (eM.cw.map Claim.enc)] [.agg (uZ cK++[.d (.sl (eM.steps.map Step.enc)),.own 0 0,.d (.sl [])])] (fun x h=>x = .aF [.d gZ.enc,.d (.int .i64 0)]∧h=[.arr 0 (63,4) (eM.cw.map Claim.enc)]):=by
 have c1:=AF eM.cw true EP EO;have c2:=K8;apply aw.lz
 case hk=>rfl
 refine aw.run af (fn:=Tryz.f15) Tryz.func15 (body:=Tryz.f15.body.getD .skip) rfl (by decide) 2000 rfl ?_;(conv=>whnf);refine bF c1 ?_;refine gO Tryz.func15 ?_;refine aQ ?_;refine gO Tryz.func15 ?_;refine ao c2 ?_;refine gO Tryz.func15 ?_;exact ⟨rfl,rfl⟩
theorem Vt (c:Claim):aw E 37 [.cells [.d .aL],.cells [.d (.bool false)]] [.d c.enc,.ptr 0 0,.ptr 1 0] (fun x h=>x = .aF []∧h=[.cells [.d (.sl [Step.enc ⟨c.time,⟨[⟨c.host,c.az⟩]⟩⟩])],.cells [.d (.bool false)]]):=by
 obtain ⟨ch,ct,⟨za,zs⟩⟩:=c;show aw E _ _ [.d (DV.agg [.int .i64 ch,.int .i64 ct,.str za,.sl (zs.map Signed.enc)]),_,_] _;apply aw.lz
 case hk=>rfl
 refine aw.run af (fn:=Tryz.f37) Tryz.func37 (body:=Tryz.f37.body.getD .skip) rfl (by decide) 2000 rfl ?_;(conv=>whnf);refine I.qa 0 0 (57,2) (by decide) rfl rfl ?_;refine gO Tryz.func37 ?_;refine I.bH af bI 2000 (by kernel_rfl) ?_;(conv=>whnf);refine aV (by decide) ?_;refine gD ?_;refine gO Tryz.func37 ?_;refine aY ?_;refine gO Tryz.func37 ?_;refine bc ⟨by simp,by simp [DV.cells]⟩ ?_;refine gO Tryz.func37 ?_;refine bc (of_decide_eq_true rfl) ?_;refine gO Tryz.func37 ?_;refine I.bH af bI 2000 (by kernel_rfl) ?_;(conv=>whnf);refine aB (e := .agg [.int .i64 ct,.aL]) ⟨of_decide_eq_true rfl,rfl⟩ rfl ?_;(conv=>whnf);refine bG.run af 1 ?_;(conv=>whnf);refine bG.run af 1 ?_;(conv=>whnf);refine bG.run af 1 ?_;(conv=>whnf);refine bG.run af 1 ?_;(conv=>whnf);refine bG.run af 1 ?_;(conv=>whnf);refine bG.run af 1 ?_;(conv=>whnf);refine bG.at rfl ?_;(conv=>whnf);refine jP.op (Vr af rfl rfl rfl rfl rfl rfl rfl rfl rfl rfl (bg rfl) (bg rfl) (by simp [DV.cells]) (by simp)) ?_;refine gD ?_;refine aB (e := .agg [.int .i64 ct,.aL]) ⟨of_decide_eq_true rfl,rfl⟩ rfl ?_;refine gD ?_;refine And.intro (by kernel_rfl) ?_;(conv=>whnf);refine gO Tryz.func37 ?_;refine aW rfl ?_;refine gO Tryz.func37 ?_;refine aW rfl ?_;refine gO Tryz.func37 ?_;refine aB (e := .agg [.int .i64 ct,.sl [.agg [.int .i64 ch,.str za,.sl (zs.map Signed.enc)]]]) ⟨of_decide_eq_true rfl,rfl⟩ rfl ?_;(conv=>whnf);refine I.run af Tryz.func37 4 ?_;(conv=>whnf);refine I.freeze 3 ?_;(conv=>whnf);refine gO Tryz.func37 ?_;exact ⟨rfl,rfl⟩
theorem Vu:aw E 13 [.arr 0 (63,4) (eM.cw.map Claim.enc)] [.agg (uZ cK++[.d (.sl (eM.steps.map Step.enc)),.own 0 0,.d (.sl [])])] (fun x h=>x = .aF [.d gZ.enc,.d (.int .i64 0)]∧h=[.arr 0 (63,4) (eM.cw.map Claim.enc)]):=by
 have c1:=AF eM.cw true EP EO;have c2:=K8;apply aw.lz
 case hk=>rfl
 refine aw.run af (fn:=Tryz.f13) Tryz.func13 (body:=Tryz.f13.body.getD .skip) rfl (by decide) 2000 rfl ?_;(conv=>whnf);refine bF c1 ?_;refine gO Tryz.func13 ?_;refine aQ ?_;refine gO Tryz.func13 ?_;refine I.l4 ?_;refine I.run af Tryz.func13 2000 ?_;(conv=>whnf);refine aV rfl ?_;refine gO Tryz.func13 ?_;refine bc (of_decide_eq_true rfl) ?_;refine gO Tryz.func13 ?_;refine aB (e:=Claim.enc ⟨1,10,fD 2⟩) ⟨of_decide_eq_true rfl,rfl⟩ rfl ?_;refine gO Tryz.func13 ?_;refine bF (Vt ⟨1,10,fD 2⟩) ?_;refine gO Tryz.func13 ?_;refine I.again ?_;refine I.run af Tryz.func13 2000 ?_;(conv=>whnf);refine aW rfl ?_;refine gO Tryz.func13 ?_;refine aQ ?_;refine gO Tryz.func13 ?_;refine ao c2 ?_;refine gO Tryz.func13 ?_;exact ⟨rfl,rfl⟩
end Go.Proofs.YtfmdaiojokniiaaGreatDoor.P
end
