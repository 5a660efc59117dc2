/- Several texts of mine, one behind the other. Conditions: as each says. -/
import Derived.Test.YtfmdaiojokniiaaGreatDoorW34
import Derived.Test.YtfmdaiojokniiaaGreatDoorW42
set_option linter.unusedVariables false
set_option linter.unusedSimpArgs false
section
namespace Go.Proofs.YtfmdaiojokniiaaGreatDoor.P
open Go Go.aw
set_option maxRecDepth 100000
set_option maxHeartbeats 4000000
end Go.Proofs.YtfmdaiojokniiaaGreatDoor.P
end
section
namespace Go.Proofs.YtfmdaiojokniiaaGreatDoor.P
open Go Go.aw
set_option maxRecDepth 100000
set_option maxHeartbeats 4000000
end Go.Proofs.YtfmdaiojokniiaaGreatDoor.P
end
section
namespace Go.Proofs.YtfmdaiojokniiaaGreatDoor.P
open Go Go.aw
set_option maxRecDepth 100000
set_option maxHeartbeats 4000000
end Go.Proofs.YtfmdaiojokniiaaGreatDoor.P
end
section
namespace Go.Proofs.YtfmdaiojokniiaaGreatDoor.P
open Go Go.aw
set_option maxRecDepth 100000
set_option maxHeartbeats 4000000
theorem TI (z:aF) (q:br):(lU z q).kind≠0∧(lU z q).kind≠7:=by
 unfold lU;repeat' split
 all_goals simp
theorem TJ {z:aF} {q:br} (h:(jG z q).kind=0∨(jG z q).kind=7):(jG z q).ae=[]:=by
 have hk:=TI z q
 revert h
 unfold jG oW;repeat' split
 all_goals first | (intro h; rcases h with h | h <;> first | exact absurd h hk.1 | exact absurd h hk.2) | (intro h; rfl) | (intro h; simp at h)
theorem TL {a:dj} (h:a.kind=0∨a.kind=7→a.ae=[]):norm (D6 a)=a.enc:=by
 unfold D6;by_cases e:a.kind=0∨a.kind=7
 ·rw [if_pos e];simp [norm,rv,dj.enc,h e]
 ·rw [if_neg e];rfl
theorem D7 (z:aF) (q:br) (hf:z.Fits) (hn:q.name.length≤maxLen):au E 88 [z.enc,q.enc] (· = .az [(jG z q).enc,.int .i64 (mD z q)]):=by
 refine au.norm ?_;refine (TG z q hf hn).mono fun r h=>?_;subst h;have:=TL (TJ (z:=z) (q:=q));simp only [norm,rv,this]
end Go.Proofs.YtfmdaiojokniiaaGreatDoor.P
end
section
namespace Go.Proofs.YtfmdaiojokniiaaGreatDoor.P
open Go Go.aw
set_option maxRecDepth 100000
set_option maxHeartbeats 4000000
theorem J6 (s z:Text) (hs:s.length≤maxLen) (hz:z.length≤maxLen):au E 84 [.str s,.str z] (· = .bool (Nm.fZ s z)):=by
 have c1:=tO s z hs hz;refine eP Tryz.func84 ?_;refine ar (c1) ?_;refine gO Tryz.func84 ?_
 with_reducible rfl
theorem J7 (s:Text) (hs:s.length≤maxLen) (hv:Nm.valid s=true):au E 87 [.str s] (· = .int .i64 (Nm.labels s).length):=by
 have c1:=CN s hs;rw [wz,if_pos hv] at c1;refine eP Tryz.func87 ?_;refine ar (c1) ?_;refine gO Tryz.func87 ?_;simp
theorem TP (h:Host) (addr:Int):aq E 81 [.cells [.d (.int .i64 addr)]] [.d h.enc,.ptr 0 0] (fun a b=>a = .d (.bool (h.addr==addr))∧b=[.cells [.d (.int .i64 addr)]]):=by
 obtain ⟨n,d,o⟩:=h;show aq E _ _ [.d (DV.agg [.str n,.int .i64 d,.int .i64 o]),_] _;apply aq.jD
 case hk=>rfl
 refine aq.run ag (fn:=Tryz.f81) Tryz.func81 (body:=Tryz.f81.body.getD .skip) rfl (by decide) 2000 rfl ?_;(conv=>whnf);exact ⟨rfl,rfl⟩
theorem J8 (h:Host):aq E 80 [.cells [.d (.int .i64 h.addr)]] [.d (.sl [h.enc]),.fn (.func 81) [] [.ptr 0 0]] (fun a b=>a = .d (.int .i64 0)∧b=[.cells [.d (.int .i64 h.addr)]]):=by
 have c1:=TP h h.addr;rw [beq_self_eq_true] at c1;refine aq.run ag (fn:=Tryz.f80) Tryz.func80 (body:=Tryz.f80.body.getD .skip) rfl (by decide) 2000 rfl ?_;(conv=>whnf);refine I.jV ?_;refine I.run ag Tryz.func80 2000 ?_;(conv=>whnf);refine bg (by simp) ?_;refine gO Tryz.func80 ?_;refine aT (e:=h.enc) ⟨by omega,rfl⟩ rfl ?_;refine gO Tryz.func80 ?_
 with_reducible refine bC (c1) ?_
 refine gO Tryz.func80 ?_;refine aY ?_;refine gO Tryz.func80 ?_;exact ⟨rfl,rfl⟩
theorem TQ (q:br) (z:aF) (h1:q.name.length≤maxLen) (h2:z.ai.length≤maxLen) (hu:Nm.fZ q.name z.ai=true):aq E 83 [.cells [.d (.int .i64 0)],.cells [.d (.str q.name),.d (.int .i64 q.type)]] [.d (bj.enc ⟨0,z⟩),.ptr 0 0,.ptr 1 0] (fun a b=>a = .d (.bool true)∧b=[.cells [.d (.int .i64 0)],.cells [.d (.str q.name),.d (.int .i64 q.type)]]):=by
 have c1:=J6 q.name z.ai h1 h2;rw [hu] at c1;show aq E _ _ [.d (DV.agg [.int .i64 0,.str z.ai,.sl (z.ae.map Signed.enc)]),_,_] _;apply aq.jD
 case hk=>rfl
 refine aq.run ag (fn:=Tryz.f83) Tryz.func83 (body:=Tryz.f83.body.getD .skip) rfl (by decide) 2000 rfl ?_;(conv=>whnf);refine aY ?_;refine gO Tryz.func83 ?_;refine ar (c1) ?_;refine gO Tryz.func83 ?_;exact ⟨rfl,rfl⟩
theorem TR (z:aF) (k:Nat):aq E 223 [.arr 0 (59,2) [z.enc]] [.own 0 0,.d (.int .i64 0),.d (.int .i64 1),.fn (.func k) [] []] (fun a b=>a = .az []∧b=[.arr 0 (59,2) [z.enc]]):=by
 refine aq.run ag (fn:=Tryz.f223) Tryz.func223 (body:=Tryz.f223.body.getD .skip) rfl (by decide) 2000 rfl ?_;(conv=>whnf);refine I.jV ?_;refine I.run ag Tryz.func223 2000 ?_;(conv=>whnf);refine aW (by decide) ?_;refine gO Tryz.func223 ?_;exact ⟨rfl,rfl⟩
theorem TS (z:aF) (k:Nat) (lim:Int):aq E 152 [.arr 0 (59,2) [z.enc]] [.own 0 0,.d (.int .i64 0),.d (.int .i64 1),.d (.int .i64 lim),.fn (.func k) [] []] (fun a b=>a = .az []∧b=[.arr 0 (59,2) [z.enc]]):=by
 have c1:=TR z k;refine aq.run ag (fn:=Tryz.f152) Tryz.func152 (body:=Tryz.f152.body.getD .skip) rfl (by decide) 2000 rfl ?_;(conv=>whnf);refine I.jV ?_;refine I.run ag Tryz.func152 2000 ?_;(conv=>whnf);refine bg (by decide) ?_;refine gO Tryz.func152 ?_
 with_reducible refine bC (c1) ?_
 refine gO Tryz.func152 ?_;exact ⟨rfl,rfl⟩
theorem TT:au E 232 [.int .u64 1] (· = .int .i64 1):=by
 refine eP Tryz.func232 ?_;refine aW (by decide) ?_;refine gO Tryz.func232 ?_;refine aW (by decide) ?_;refine gO Tryz.func232 ?_;refine aW (by decide) ?_;refine gO Tryz.func232 ?_;refine l8 1 (by decide) rfl ?_;refine gO Tryz.func232 ?_;rfl
theorem TU:au E 153 [.int .u64 1] (· = .int .i64 1):=by
 have c1:=TT;refine eP Tryz.func153 ?_;refine aN ?_;refine gO Tryz.func153 ?_
 with_reducible refine ar (c1) ?_
 refine gO Tryz.func153 ?_
 with_reducible rfl
theorem TV (z:aF) (k:Nat):aq E 85 [.arr 0 (59,2) [z.enc]] [.own 0 0,.fn (.func k) [] []] (fun a b=>a = .az []∧b=[.arr 0 (59,2) [z.enc]]):=by
 refine aq.run ag (fn:=Tryz.f85) Tryz.func85 (body:=Tryz.f85.body.getD .skip) rfl (by decide) 2000 rfl ?_;(conv=>whnf);refine ar (r := .int .i64 1) TU ?_;refine gO Tryz.func85 ?_
 with_reducible refine bC (TS z k 1) ?_
 refine gO Tryz.func85 ?_;exact ⟨rfl,rfl⟩
@[reducible] def J9 (h : Host) (l : List bj) (a : dc) (hints : List Int) : DV := .agg [.sl [h.enc], .sl (l.map bj.enc), .str a.name, .int .i64 a.type, .int .i64 a.cV, .sl (a.data.map Datum.enc), .sl (hints.map (.int .i64))]
theorem TW (h:Host) (a:dc) (hints:List Int) (q:br) (hf:(⟨[h],[],a,hints⟩:kP).Fits) (hw:nH ⟨[h],[],a,hints⟩=true) (hq:iI q=true) (iY:q.name.length≤maxLen):au E 31 [J9 h [] a hints,.int .i64 h.addr,q.enc] (· = .az [.agg [.int .i64 7,.sl [],.str []],.int .i64 0]):=by
 refine au.norm ?_;have c1:=D9 _ hf;have c2:=DI q iY;rw [hw] at c1;rw [hq] at c2;have c3:=J8 h;obtain ⟨qn,qt⟩:=q;show au E _ [DV.agg [.sl [h.enc],.sl [],.str a.name,.int .i64 a.type,.int .i64 a.cV,.sl (a.data.map Datum.enc),.sl (hints.map (.int .i64))],_,.agg [.str qn,.int .i64 qt]] _;refine eP Tryz.func31 ?_;refine ar (c1) ?_;refine gO Tryz.func31 ?_;refine aN ?_;refine gO Tryz.func31 ?_;refine ar (c2) ?_;refine gO Tryz.func31 ?_;refine aN ?_;refine gO Tryz.func31 ?_
 with_reducible refine bC (c3) ?_
 refine gO Tryz.func31 ?_;refine aW (by decide) ?_;(conv=>whnf);repeat ((fail_if_success (first | (refine I.lL (fn:=Tryz.f82) rfl rfl lI (lK (aM rfl) (aM rfl)) Tryz.func82 rfl (by decide) ?_) | fail)); (refine I.run ag Tryz.func31 1 ?_); (conv=>whnf))
 refine I.lL (fn:=Tryz.f82) rfl rfl lI (lK (aM rfl) (aM rfl)) Tryz.func82 rfl (by decide) ?_;(conv=>whnf);(conv=>whnf);repeat ((fail_if_success (first | (refine I.lM ag Tryz.func82 rfl rfl rfl (L:=[]) rfl ?_) | fail)); (refine I.run ag Tryz.func82 1 ?_); (conv=>whnf))
 refine I.lM ag Tryz.func82 rfl rfl rfl (L:=[]) rfl ?_;(conv=>whnf);(conv=>whnf);repeat ((fail_if_success (first | (refine I.rangeFunc (aM rfl) Tryz.func151 rfl (by decide) rfl (fun ll d t=>?_)) | fail)); (refine I.run ag Tryz.func31 1 ?_); (conv=>whnf))
 refine I.rangeFunc (aM rfl) Tryz.func151 rfl (by decide) rfl (fun ll d t=>?_);(conv=>whnf);refine gO Tryz.func151 ?_;refine I.jV ?_;refine I.run ag Tryz.func151 2000 ?_;(conv=>whnf);refine aW (by decide) ?_;refine gO Tryz.func151 ?_;refine I.iC ag Tryz.func151 rfl rfl rfl rfl (fun e=>nomatch e) ?_;(conv=>whnf);refine gO Tryz.func31 ?_;refine bg (by decide) ?_;refine gO Tryz.func31 ?_;refine I.fP ag Tryz.func31 rfl rfl rfl rfl rfl ?_;rfl
theorem TX (h:Host) (z:aF) (a:dc) (hints:List Int) (q:br) (hf:(⟨[h],[⟨0,z⟩],a,hints⟩:kP).Fits) (hw:nH ⟨[h],[⟨0,z⟩],a,hints⟩=true) (hq:iI q=true) (iY:q.name.length≤maxLen) (hu:Nm.fZ q.name z.ai=true):au E 31 [J9 h [⟨0,z⟩] a hints,.int .i64 h.addr,q.enc] (· = .az [(jG z q).enc,.int .i64 (mD z q)]):=by
 have fq:z.Fits:=hf.cW ⟨0,z⟩ (List.mem_singleton.2 rfl);have c1:=D9 _ hf;have c2:=DI q iY;rw [hw] at c1;rw [hq] at c2;have c3:=J8 h;have c4:=TQ q z iY fq.ai hu;have c5:=D7 z q fq iY;generalize jG z q=A at *;obtain ⟨ak,al,ac⟩:=A;obtain ⟨qn,qt⟩:=q;show au E _ [DV.agg [.sl [h.enc],.sl [bj.enc ⟨0,z⟩],.str a.name,.int .i64 a.type,.int .i64 a.cV,.sl (a.data.map Datum.enc),.sl (hints.map (.int .i64))],_,.agg [.str qn,.int .i64 qt]] _;refine eP Tryz.func31 ?_;refine ar (c1) ?_;refine gO Tryz.func31 ?_;refine aN ?_;refine gO Tryz.func31 ?_;refine ar (c2) ?_;refine gO Tryz.func31 ?_;refine aN ?_;refine gO Tryz.func31 ?_
 with_reducible refine bC (c3) ?_
 refine gO Tryz.func31 ?_;refine aW (by decide) ?_;(conv=>whnf);repeat ((fail_if_success (first | (refine I.lL (fn:=Tryz.f82) rfl rfl lI (lK (aM rfl) (aM rfl)) Tryz.func82 rfl (by decide) ?_) | fail)); (refine I.run ag Tryz.func31 1 ?_); (conv=>whnf))
 refine I.lL (fn:=Tryz.f82) rfl rfl lI (lK (aM rfl) (aM rfl)) Tryz.func82 rfl (by decide) ?_;(conv=>whnf);(conv=>whnf);repeat ((fail_if_success (first | (refine I.lM ag Tryz.func82 rfl rfl rfl (L:=[]) rfl ?_) | fail)); (refine I.run ag Tryz.func82 1 ?_); (conv=>whnf))
 refine I.lM ag Tryz.func82 rfl rfl rfl (L:=[]) rfl ?_;(conv=>whnf);(conv=>whnf);repeat ((fail_if_success (first | (refine I.rangeFunc (aM rfl) Tryz.func151 rfl (by decide) rfl (fun ll d t=>?_)) | fail)); (refine I.run ag Tryz.func31 1 ?_); (conv=>whnf))
 refine I.rangeFunc (aM rfl) Tryz.func151 rfl (by decide) rfl (fun ll d t=>?_);(conv=>whnf);refine gO Tryz.func151 ?_;refine I.jV ?_;refine I.run ag Tryz.func151 2000 ?_;(conv=>whnf);refine bg (by simp) ?_;refine gO Tryz.func151 ?_;refine aT (e:=bj.enc ⟨0,z⟩) ⟨by omega,rfl⟩ rfl ?_;refine gO Tryz.func151 ?_
 with_reducible refine bC (c4) ?_
 refine gO Tryz.func151 ?_;refine aY ?_;(conv=>whnf);repeat ((fail_if_success (first | (refine I.zI 0 rfl (zJ rfl rfl rfl rfl) rfl (aM rfl) (lK (aM rfl) (aM rfl)) rfl ?_) | fail)); (refine I.run ag Tryz.func151 1 ?_); (conv=>whnf))
 refine I.zI 0 rfl (zJ rfl rfl rfl rfl) rfl (aM rfl) (lK (aM rfl) (aM rfl)) rfl ?_;(conv=>whnf);refine gO Tryz.func31 ?_;refine I.begin 0 rfl rfl rfl ?_;(conv=>whnf);refine gO Tryz.func31 ?_;refine bp ⟨by simp,by simp [DV.cells]⟩ ?_;refine gO Tryz.func31 ?_;refine I.mj 0 rfl rfl rfl ?_;(conv=>whnf);refine gO Tryz.func151 ?_;refine aY ?_;refine gO Tryz.func151 ?_;refine aN ?_;refine gO Tryz.func151 ?_;refine I.again ?_;refine I.run ag Tryz.func151 2000 ?_;(conv=>whnf);refine aW rfl ?_;refine gO Tryz.func151 ?_;refine I.iC ag Tryz.func151 rfl rfl rfl rfl (fun e=>nomatch e) ?_;(conv=>whnf);refine gO Tryz.func31 ?_;refine aW (by simp) ?_;refine gO Tryz.func31 ?_
 with_reducible refine bC (TV z 86) ?_
 refine gO Tryz.func31 ?_;refine bp (by simp) ?_;refine gO Tryz.func31 ?_;refine aT (e:=z.enc) ⟨by omega,rfl⟩ rfl ?_;refine gO Tryz.func31 ?_;repeat' (first | with_reducible refine ar (c5) ?_ | with_reducible refine aR (c5) ?_ | with_reducible refine cY ?_ | with_reducible refine cN ?_ | with_reducible refine aj (fun _=>?_) (fun _=>?_) | refine gA Tryz.func31 ?_ | refine gB ?_ | with_reducible rfl)
 all_goals try (exfalso; simp_all; done)
 all_goals
  (conv=>whnf);refine gO Tryz.func31 ?_;refine I.fP ag Tryz.func31 rfl rfl rfl rfl rfl ?_;rfl
end Go.Proofs.YtfmdaiojokniiaaGreatDoor.P
end
section
namespace Go.aw
open Go
def zR:AV→AV
 | .d x => .d (norm x)
 |x=>x
def zS:AV→AV
 | .agg l => .agg (l.map zR)
 |x=>zR x
def zT:AV→AV
 | .az l => .az (l.map zS)
 |x=>zS x
section
variable {c:Cx} {x:AV} {v:Value}
theorem J' (h:VR c x v):VR c (zR x) v:=by
 unfold zR;split
 ·cases h with | d _ _ h=>exact .d _ _ (GG h)
 ·exact h
theorem Ka (h:VR c x v):VR c (zS x) v:=by
 unfold zS;split
 ·obtain ⟨vs,rfl,h1⟩:=mO h; exact sx (px J' h1)
 ·exact J' h
theorem TY (h:VR c x v):VR c (zT x) v:=by
 unfold zT;split
 ·obtain ⟨vs,rfl,h1⟩:=vw h; exact vx (px Ka h1)
 ·exact Ka h
theorem aq.norm {E:Env} {f:FuncId} {h:List ab} {args:List AV} {Q:AV→List ab→Prop} (H:aq E f h args fun a b=>Q (zT a) b):aq E f h args Q:=by
 unfold aq at H ⊢;exact ⟨H.1,H.2.1,fun c vs h1 h2 h3=>(H.2.2 c vs h1 h2 h3).mono fun e w' ⟨c',r,v,k1,k2,k3,k4,k5⟩=>⟨c',zT r,v,k1,k2,k3,TY k4,k5⟩⟩
end
end Go.aw
end
section
namespace Go.Proofs.YtfmdaiojokniiaaGreatDoor.P
open Go Go.aw
theorem Ua {h:bN} (hg:h.Good) (hf:xg h=true):h.Fits∧h.aG.length≤20∧h.hints.length≤1000000∧h.kb:=by
 simp only [xg,ue,Bool.and_eq_true,decide_eq_true_eq] at hf;obtain ⟨⟨h1,h2⟩,⟨⟨h3,h4⟩,h5⟩,h6⟩:=hf;rw [List.take_of_length_le (by omega)] at h1 h2;obtain ⟨g1,g2,g3,g4,g5⟩:=hg;have hz:∀ c∈h.aG,c.ay.Fits∧c.ay.jA∧c.ay.kb:=fun c hc=>by
  have:=List.all_eq_true.1 h1 c hc;simp only [mA,Bool.and_eq_true] at this;exact Qq (g2.2 c hc).2.2.2 this.1
 refine ⟨⟨fun x hx=>(g1.2 x hx).1,⟨g3.1,by omega,fun d hd=>(g3.2.2.2.2 d hd).1⟩,g4.1,fun c hc=>(hz c hc).1⟩,h3,by omega,⟨by omega,by omega,by omega,by omega,fun c hc=>(hz c hc).2.2⟩⟩
theorem Ub {s:Signed} (hg:s.Good) (h:s.set.data.length≤2147483648):s.eF:=⟨⟨hg.1.1,h,fun d hd=>(hg.1.2.2.2.2 d hd).1⟩,hg.2.1,fun g hx=>(hg.2.2 g hx).1⟩
theorem Uc {l:List Signed} (hg:∀ s∈l,s.Good) (h:xf l=true):∀ s∈l,s.eF:=fun s hs=>by
 simp only [xf,Bool.and_eq_true,decide_eq_true_eq] at h;rw [List.take_of_length_le (by omega)] at h;have:=List.all_eq_true.1 h.1 s hs;simp [ui] at this;exact Ub (hg s hs) (by omega)
end Go.Proofs.YtfmdaiojokniiaaGreatDoor.P
end
