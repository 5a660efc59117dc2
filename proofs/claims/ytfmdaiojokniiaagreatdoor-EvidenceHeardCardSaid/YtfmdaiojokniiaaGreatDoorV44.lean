/- Several texts of mine, one behind the other. Conditions: as each says. -/
import Derived.Test.YtfmdaiojokniiaaGreatDoorV33
import Derived.Test.YtfmdaiojokniiaaGreatDoorV41
set_option linter.unusedVariables false
set_option linter.unusedSimpArgs false
section
namespace Go.Proofs.YtfmdaiojokniiaaGreatDoor.P
open Go Go.aw
set_option maxRecDepth 100000
set_option maxHeartbeats 4000000
theorem Lj (z:aG) (q:bj):(kX z q).kind≠0∧(kX z q).kind≠7:=by
 unfold kX;repeat' split
 all_goals simp
theorem Vp {z:aG} {q:bj} (h:(fJ z q).kind=0∨(fJ z q).kind=7):(fJ z q).ab=[]:=by
 have hk:=Lj z q
 revert h
 unfold fJ nI;repeat' split
 all_goals first | (intro h; rcases h with h | h <;> first | exact absurd h hk.1 | exact absurd h hk.2) | (intro h; rfl) | (intro h; simp at h)
theorem Vq {a:dC} (h:a.kind=0∨a.kind=7→a.ab=[]):norm (Fa a)=a.enc:=by
 unfold Fa;by_cases e:a.kind=0∨a.kind=7
 ·rw [if_pos e];simp [norm,ss,dC.enc,h e]
 ·rw [if_neg e];rfl
theorem Fb (z:aG) (q:bj) (hf:z.Fits) (hn:q.name.length≤maxLen):aq E 88 [z.enc,q.enc] (· = .aD [(fJ z q).enc,.int .i64 (kj z q)]):=by
 refine aq.norm ?_;refine (Vn z q hf hn).mono fun r h=>?_;subst h;have:=Vq (Vp (z:=z) (q:=q));simp only [norm,ss,this]
end Go.Proofs.YtfmdaiojokniiaaGreatDoor.P
end
section
namespace Go.Proofs.YtfmdaiojokniiaaGreatDoor.P
open Go Go.aw
set_option maxRecDepth 100000
set_option maxHeartbeats 4000000
theorem Ll (s z:Text) (hs:s.length≤maxLen) (hz:z.length≤maxLen):aq E 84 [.str s,.str z] (· = .bool (Nm.iB s z)):=by
 have c1:=uK s z hs hz;refine eP Tryz.func84 ?_;refine ao (c1) ?_;refine gO Tryz.func84 ?_
 with_reducible rfl
theorem Lm (s:Text) (hs:s.length≤maxLen) (hv:Nm.valid s=true):aq E 87 [.str s] (· = .int .i64 (Nm.labels s).length):=by
 have c1:=DF s hs;rw [xw,if_pos hv] at c1;refine eP Tryz.func87 ?_;refine ao (c1) ?_;refine gO Tryz.func87 ?_;simp
theorem Vu (h:Host) (addr:Int):au E 81 [.cells [.d (.int .i64 addr)]] [.d h.enc,.ptr 0 0] (fun a b=>a = .d (.bool (h.addr==addr))∧b=[.cells [.d (.int .i64 addr)]]):=by
 obtain ⟨n,d,o⟩:=h;show au E _ _ [.d (DV.agg [.str n,.int .i64 d,.int .i64 o]),_] _;apply au.kf
 case hk=>rfl
 refine au.run af (fn:=Tryz.f81) Tryz.func81 (body:=Tryz.f81.body.getD .skip) rfl (by decide) 2000 rfl ?_;(conv=>whnf);exact ⟨rfl,rfl⟩
theorem Ln (h:Host):au E 80 [.cells [.d (.int .i64 h.addr)]] [.d (.sl [h.enc]),.fn (.func 81) [] [.ptr 0 0]] (fun a b=>a = .d (.int .i64 0)∧b=[.cells [.d (.int .i64 h.addr)]]):=by
 have c1:=Vu h h.addr;rw [beq_self_eq_true] at c1;refine au.run af (fn:=Tryz.f80) Tryz.func80 (body:=Tryz.f80.body.getD .skip) rfl (by decide) 2000 rfl ?_;(conv=>whnf);refine I.mw ?_;refine I.run af Tryz.func80 2000 ?_;(conv=>whnf);refine bh (by simp) ?_;refine gO Tryz.func80 ?_;refine aE (e:=h.enc) ⟨by omega,rfl⟩ rfl ?_;refine gO Tryz.func80 ?_
 with_reducible refine bD (c1) ?_
 refine gO Tryz.func80 ?_;refine aV ?_;refine gO Tryz.func80 ?_;exact ⟨rfl,rfl⟩
theorem Vv (q:bj) (z:aG) (h1:q.name.length≤maxLen) (h2:z.ah.length≤maxLen) (hu:Nm.iB q.name z.ah=true):au E 83 [.cells [.d (.int .i64 0)],.cells [.d (.str q.name),.d (.int .i64 q.type)]] [.d (bo.enc ⟨0,z⟩),.ptr 0 0,.ptr 1 0] (fun a b=>a = .d (.bool true)∧b=[.cells [.d (.int .i64 0)],.cells [.d (.str q.name),.d (.int .i64 q.type)]]):=by
 have c1:=Ll q.name z.ah h1 h2;rw [hu] at c1;show au E _ _ [.d (DV.agg [.int .i64 0,.str z.ah,.sl (z.ab.map Signed.enc)]),_,_] _;apply au.kf
 case hk=>rfl
 refine au.run af (fn:=Tryz.f83) Tryz.func83 (body:=Tryz.f83.body.getD .skip) rfl (by decide) 2000 rfl ?_;(conv=>whnf);refine aV ?_;refine gO Tryz.func83 ?_;refine ao (c1) ?_;refine gO Tryz.func83 ?_;exact ⟨rfl,rfl⟩
theorem Vw (z:aG) (k:Nat):au E 223 [.arr 0 (59,2) [z.enc]] [.own 0 0,.d (.int .i64 0),.d (.int .i64 1),.fn (.func k) [] []] (fun a b=>a = .aD []∧b=[.arr 0 (59,2) [z.enc]]):=by
 refine au.run af (fn:=Tryz.f223) Tryz.func223 (body:=Tryz.f223.body.getD .skip) rfl (by decide) 2000 rfl ?_;(conv=>whnf);refine I.mw ?_;refine I.run af Tryz.func223 2000 ?_;(conv=>whnf);refine aZ (by decide) ?_;refine gO Tryz.func223 ?_;exact ⟨rfl,rfl⟩
theorem Vx (z:aG) (k:Nat) (lim:Int):au E 152 [.arr 0 (59,2) [z.enc]] [.own 0 0,.d (.int .i64 0),.d (.int .i64 1),.d (.int .i64 lim),.fn (.func k) [] []] (fun a b=>a = .aD []∧b=[.arr 0 (59,2) [z.enc]]):=by
 have c1:=Vw z k;refine au.run af (fn:=Tryz.f152) Tryz.func152 (body:=Tryz.f152.body.getD .skip) rfl (by decide) 2000 rfl ?_;(conv=>whnf);refine I.mw ?_;refine I.run af Tryz.func152 2000 ?_;(conv=>whnf);refine bh (by decide) ?_;refine gO Tryz.func152 ?_
 with_reducible refine bD (c1) ?_
 refine gO Tryz.func152 ?_;exact ⟨rfl,rfl⟩
theorem Vy:aq E 232 [.int .u64 1] (· = .int .i64 1):=by
 refine eP Tryz.func232 ?_;refine aZ (by decide) ?_;refine gO Tryz.func232 ?_;refine aZ (by decide) ?_;refine gO Tryz.func232 ?_;refine aZ (by decide) ?_;refine gO Tryz.func232 ?_;refine jt 1 (by decide) rfl ?_;refine gO Tryz.func232 ?_;rfl
theorem Vz:aq E 153 [.int .u64 1] (· = .int .i64 1):=by
 have c1:=Vy;refine eP Tryz.func153 ?_;refine aQ ?_;refine gO Tryz.func153 ?_
 with_reducible refine ao (c1) ?_
 refine gO Tryz.func153 ?_
 with_reducible rfl
theorem VA (z:aG) (k:Nat):au E 85 [.arr 0 (59,2) [z.enc]] [.own 0 0,.fn (.func k) [] []] (fun a b=>a = .aD []∧b=[.arr 0 (59,2) [z.enc]]):=by
 refine au.run af (fn:=Tryz.f85) Tryz.func85 (body:=Tryz.f85.body.getD .skip) rfl (by decide) 2000 rfl ?_;(conv=>whnf);refine ao (r := .int .i64 1) Vz ?_;refine gO Tryz.func85 ?_
 with_reducible refine bD (Vx z k 1) ?_
 refine gO Tryz.func85 ?_;exact ⟨rfl,rfl⟩
@[reducible] def Lo (h : Host) (l : List bo) (a : cS) (hints : List Int) : DV := .agg [.sl [h.enc], .sl (l.map bo.enc), .str a.name, .int .i64 a.type, .int .i64 a.cD, .sl (a.data.map Datum.enc), .sl (hints.map (.int .i64))]
theorem VB (h:Host) (a:cS) (hints:List Int) (q:bj) (hf:(⟨[h],[],a,hints⟩:jE).Fits) (hw:nz ⟨[h],[],a,hints⟩=true) (hq:gr q=true) (jz:q.name.length≤maxLen):aq E 31 [Lo h [] a hints,.int .i64 h.addr,q.enc] (· = .aD [.agg [.int .i64 7,.sl [],.str []],.int .i64 0]):=by
 refine aq.norm ?_;have c1:=Fe _ hf;have c2:=EN q jz;rw [hw] at c1;rw [hq] at c2;have c3:=Ln h;obtain ⟨qn,qt⟩:=q;show aq E _ [DV.agg [.sl [h.enc],.sl [],.str a.name,.int .i64 a.type,.int .i64 a.cD,.sl (a.data.map Datum.enc),.sl (hints.map (.int .i64))],_,.agg [.str qn,.int .i64 qt]] _;refine eP Tryz.func31 ?_;refine ao (c1) ?_;refine gO Tryz.func31 ?_;refine aQ ?_;refine gO Tryz.func31 ?_;refine ao (c2) ?_;refine gO Tryz.func31 ?_;refine aQ ?_;refine gO Tryz.func31 ?_
 with_reducible refine bD (c3) ?_
 refine gO Tryz.func31 ?_;refine aZ (by decide) ?_;(conv=>whnf);repeat ((fail_if_success (first | (refine I.kJ (fn:=Tryz.f82) rfl rfl kG (kH (aP rfl) (aP rfl)) Tryz.func82 rfl (by decide) ?_) | fail)); (refine I.run af Tryz.func31 1 ?_); (conv=>whnf))
 refine I.kJ (fn:=Tryz.f82) rfl rfl kG (kH (aP rfl) (aP rfl)) Tryz.func82 rfl (by decide) ?_;(conv=>whnf);(conv=>whnf);repeat ((fail_if_success (first | (refine I.lI af Tryz.func82 rfl rfl rfl (L:=[]) rfl ?_) | fail)); (refine I.run af Tryz.func82 1 ?_); (conv=>whnf))
 refine I.lI af Tryz.func82 rfl rfl rfl (L:=[]) rfl ?_;(conv=>whnf);(conv=>whnf);repeat ((fail_if_success (first | (refine I.rangeFunc (aP rfl) Tryz.func151 rfl (by decide) rfl (fun ll d t=>?_)) | fail)); (refine I.run af Tryz.func31 1 ?_); (conv=>whnf))
 refine I.rangeFunc (aP rfl) Tryz.func151 rfl (by decide) rfl (fun ll d t=>?_);(conv=>whnf);refine gO Tryz.func151 ?_;refine I.mw ?_;refine I.run af Tryz.func151 2000 ?_;(conv=>whnf);refine aZ (by decide) ?_;refine gO Tryz.func151 ?_;refine I.iD af Tryz.func151 rfl rfl rfl rfl (fun e=>nomatch e) ?_;(conv=>whnf);refine gO Tryz.func31 ?_;refine bh (by decide) ?_;refine gO Tryz.func31 ?_;refine I.fS af Tryz.func31 rfl rfl rfl rfl rfl ?_;rfl
theorem VC (h:Host) (z:aG) (a:cS) (hints:List Int) (q:bj) (hf:(⟨[h],[⟨0,z⟩],a,hints⟩:jE).Fits) (hw:nz ⟨[h],[⟨0,z⟩],a,hints⟩=true) (hq:gr q=true) (jz:q.name.length≤maxLen) (hu:Nm.iB q.name z.ah=true):aq E 31 [Lo h [⟨0,z⟩] a hints,.int .i64 h.addr,q.enc] (· = .aD [(fJ z q).enc,.int .i64 (kj z q)]):=by
 have fH:z.Fits:=hf.da ⟨0,z⟩ (List.mem_singleton.2 rfl);have c1:=Fe _ hf;have c2:=EN q jz;rw [hw] at c1;rw [hq] at c2;have c3:=Ln h;have c4:=Vv q z jz fH.ah hu;have c5:=Fb z q fH jz;generalize fJ z q=A at *;obtain ⟨ak,al,ac⟩:=A;obtain ⟨qn,qt⟩:=q;show aq E _ [DV.agg [.sl [h.enc],.sl [bo.enc ⟨0,z⟩],.str a.name,.int .i64 a.type,.int .i64 a.cD,.sl (a.data.map Datum.enc),.sl (hints.map (.int .i64))],_,.agg [.str qn,.int .i64 qt]] _;refine eP Tryz.func31 ?_;refine ao (c1) ?_;refine gO Tryz.func31 ?_;refine aQ ?_;refine gO Tryz.func31 ?_;refine ao (c2) ?_;refine gO Tryz.func31 ?_;refine aQ ?_;refine gO Tryz.func31 ?_
 with_reducible refine bD (c3) ?_
 refine gO Tryz.func31 ?_;refine aZ (by decide) ?_;(conv=>whnf);repeat ((fail_if_success (first | (refine I.kJ (fn:=Tryz.f82) rfl rfl kG (kH (aP rfl) (aP rfl)) Tryz.func82 rfl (by decide) ?_) | fail)); (refine I.run af Tryz.func31 1 ?_); (conv=>whnf))
 refine I.kJ (fn:=Tryz.f82) rfl rfl kG (kH (aP rfl) (aP rfl)) Tryz.func82 rfl (by decide) ?_;(conv=>whnf);(conv=>whnf);repeat ((fail_if_success (first | (refine I.lI af Tryz.func82 rfl rfl rfl (L:=[]) rfl ?_) | fail)); (refine I.run af Tryz.func82 1 ?_); (conv=>whnf))
 refine I.lI af Tryz.func82 rfl rfl rfl (L:=[]) rfl ?_;(conv=>whnf);(conv=>whnf);repeat ((fail_if_success (first | (refine I.rangeFunc (aP rfl) Tryz.func151 rfl (by decide) rfl (fun ll d t=>?_)) | fail)); (refine I.run af Tryz.func31 1 ?_); (conv=>whnf))
 refine I.rangeFunc (aP rfl) Tryz.func151 rfl (by decide) rfl (fun ll d t=>?_);(conv=>whnf);refine gO Tryz.func151 ?_;refine I.mw ?_;refine I.run af Tryz.func151 2000 ?_;(conv=>whnf);refine bh (by simp) ?_;refine gO Tryz.func151 ?_;refine aE (e:=bo.enc ⟨0,z⟩) ⟨by omega,rfl⟩ rfl ?_;refine gO Tryz.func151 ?_
 with_reducible refine bD (c4) ?_
 refine gO Tryz.func151 ?_;refine aV ?_;(conv=>whnf);repeat ((fail_if_success (first | (refine I.yg 0 rfl (yh rfl rfl rfl rfl) rfl (aP rfl) (kH (aP rfl) (aP rfl)) rfl ?_) | fail)); (refine I.run af Tryz.func151 1 ?_); (conv=>whnf))
 refine I.yg 0 rfl (yh rfl rfl rfl rfl) rfl (aP rfl) (kH (aP rfl) (aP rfl)) rfl ?_;(conv=>whnf);refine gO Tryz.func31 ?_;refine I.begin 0 rfl rfl rfl ?_;(conv=>whnf);refine gO Tryz.func31 ?_;refine a8 ⟨by simp,by simp [DV.cells]⟩ ?_;refine gO Tryz.func31 ?_;refine I.mC 0 rfl rfl rfl ?_;(conv=>whnf);refine gO Tryz.func151 ?_;refine aV ?_;refine gO Tryz.func151 ?_;refine aQ ?_;refine gO Tryz.func151 ?_;refine I.again ?_;refine I.run af Tryz.func151 2000 ?_;(conv=>whnf);refine aZ rfl ?_;refine gO Tryz.func151 ?_;refine I.iD af Tryz.func151 rfl rfl rfl rfl (fun e=>nomatch e) ?_;(conv=>whnf);refine gO Tryz.func31 ?_;refine aZ (by simp) ?_;refine gO Tryz.func31 ?_
 with_reducible refine bD (VA z 86) ?_
 refine gO Tryz.func31 ?_;refine a8 (by simp) ?_;refine gO Tryz.func31 ?_;refine aE (e:=z.enc) ⟨by omega,rfl⟩ rfl ?_;refine gO Tryz.func31 ?_;repeat' (first | with_reducible refine ao (c5) ?_ | with_reducible refine ay (c5) ?_ | with_reducible refine cY ?_ | with_reducible refine cN ?_ | with_reducible refine ai (fun _=>?_) (fun _=>?_) | refine gA Tryz.func31 ?_ | refine gB ?_ | with_reducible rfl)
 all_goals try (exfalso; simp_all; done)
 all_goals
  (conv=>whnf);refine gO Tryz.func31 ?_;refine I.fS af Tryz.func31 rfl rfl rfl rfl rfl ?_;rfl
end Go.Proofs.YtfmdaiojokniiaaGreatDoor.P
end
section
namespace Go.Proofs.YtfmdaiojokniiaaGreatDoor.P
open Go Go.aw
theorem VU {h:bJ} (hg:h.Good) (hf:yc h=true):h.Fits∧h.aB.length≤20∧h.hints.length≤1000000∧h.kb:=by
 simp only [yc,vi,Bool.and_eq_true,decide_eq_true_eq] at hf;obtain ⟨⟨h1,h2⟩,⟨⟨h3,h4⟩,h5⟩,h6⟩:=hf;rw [List.take_of_length_le (by omega)] at h1 h2;obtain ⟨g1,g2,g3,g4,g5⟩:=hg;have hz:∀ c∈h.aB,c.az.Fits∧c.az.jG∧c.az.kb:=fun c hc=>by
  have:=List.all_eq_true.1 h1 c hc;simp only [nE,Bool.and_eq_true] at this;exact RT (g2.2 c hc).2.2.2 this.1
 refine ⟨⟨fun x hx=>(g1.2 x hx).1,⟨g3.1,by omega,fun d hd=>(g3.2.2.2.2 d hd).1⟩,g4.1,fun c hc=>(hz c hc).1⟩,h3,by omega,⟨by omega,by omega,by omega,by omega,fun c hc=>(hz c hc).2.2⟩⟩
theorem VV {s:Signed} (hg:s.Good) (h:s.set.data.length≤2147483648):s.ep:=⟨⟨hg.1.1,h,fun d hd=>(hg.1.2.2.2.2 d hd).1⟩,hg.2.1,fun g hx=>(hg.2.2 g hx).1⟩
end Go.Proofs.YtfmdaiojokniiaaGreatDoor.P
end
