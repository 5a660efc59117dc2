/- Several texts of mine, one behind the other. Conditions: as each says. -/
import Derived.Test.YtfmdaiojokniiaaGreatDoorY32
import Derived.Test.YtfmdaiojokniiaaGreatDoorY41
import Derived.Test.YtfmdaiojokniiaaGreatDoorY44
set_option linter.unusedVariables false
set_option linter.unusedSimpArgs false
section
namespace Go.Proofs.YtfmdaiojokniiaaGreatDoor.P
open Go Go.ax
set_option maxRecDepth 100000
set_option maxHeartbeats 4000000
theorem Vd (s z:Text) (hs:s.length≤maxLen) (hz:z.length≤maxLen):aq E 84 [.str s,.str z] (· = .bool (Nm.nM s z)):=by
 have c1:=uk s z hs hz;refine eP Tryz.func84 ?_;refine ao (c1) ?_;refine gO Tryz.func84 ?_
 with_reducible rfl
theorem Ve (h:Host) (addr:Int):aw E 81 [.cells [.d (.int .i64 addr)]] [.d h.enc,.ptr 0 0] (fun a b=>a = .d (.bool (h.addr==addr))∧b=[.cells [.d (.int .i64 addr)]]):=by
 obtain ⟨n,d,o⟩:=h;show aw E _ _ [.d (DV.agg [.str n,.int .i64 d,.int .i64 o]),_] _;apply aw.lz
 case hk=>rfl
 refine aw.run af (fn:=Tryz.f81) Tryz.func81 (body:=Tryz.f81.body.getD .skip) rfl (by decide) 2000 rfl ?_;(conv=>whnf);exact ⟨rfl,rfl⟩
theorem KY (h:Host):aw E 80 [.cells [.d (.int .i64 h.addr)]] [.d (.sl [h.enc]),.fn (.func 81) [] [.ptr 0 0]] (fun a b=>a = .d (.int .i64 0)∧b=[.cells [.d (.int .i64 h.addr)]]):=by
 have c1:=Ve h h.addr;rw [beq_self_eq_true] at c1;refine aw.run af (fn:=Tryz.f80) Tryz.func80 (body:=Tryz.f80.body.getD .skip) rfl (by decide) 2000 rfl ?_;(conv=>whnf);refine I.l4 ?_;refine I.run af Tryz.func80 2000 ?_;(conv=>whnf);refine aV (by simp) ?_;refine gO Tryz.func80 ?_;refine aB (e:=h.enc) ⟨by omega,rfl⟩ rfl ?_;refine gO Tryz.func80 ?_
 with_reducible refine bF (c1) ?_
 refine gO Tryz.func80 ?_;refine aY ?_;refine gO Tryz.func80 ?_;exact ⟨rfl,rfl⟩
theorem Vf (q:bw) (z:aR) (h1:q.name.length≤maxLen) (h2:z.aj.length≤maxLen) (hu:Nm.nM q.name z.aj=true):aw E 83 [.cells [.d (.int .i64 0)],.cells [.d (.str q.name),.d (.int .i64 q.type)]] [.d (bz.enc ⟨0,z⟩),.ptr 0 0,.ptr 1 0] (fun a b=>a = .d (.bool true)∧b=[.cells [.d (.int .i64 0)],.cells [.d (.str q.name),.d (.int .i64 q.type)]]):=by
 have c1:=Vd q.name z.aj h1 h2;rw [hu] at c1;show aw E _ _ [.d (DV.agg [.int .i64 0,.str z.aj,.sl (z.ab.map Signed.enc)]),_,_] _;apply aw.lz
 case hk=>rfl
 refine aw.run af (fn:=Tryz.f83) Tryz.func83 (body:=Tryz.f83.body.getD .skip) rfl (by decide) 2000 rfl ?_;(conv=>whnf);refine aY ?_;refine gO Tryz.func83 ?_;refine ao (c1) ?_;refine gO Tryz.func83 ?_;exact ⟨rfl,rfl⟩
theorem Vg (z:aR) (k:Nat):aw E 223 [.arr 0 (59,2) [z.enc]] [.own 0 0,.d (.int .i64 0),.d (.int .i64 1),.fn (.func k) [] []] (fun a b=>a = .aF []∧b=[.arr 0 (59,2) [z.enc]]):=by
 refine aw.run af (fn:=Tryz.f223) Tryz.func223 (body:=Tryz.f223.body.getD .skip) rfl (by decide) 2000 rfl ?_;(conv=>whnf);refine I.l4 ?_;refine I.run af Tryz.func223 2000 ?_;(conv=>whnf);refine aW (by decide) ?_;refine gO Tryz.func223 ?_;exact ⟨rfl,rfl⟩
theorem Vh (z:aR) (k:Nat) (lim:Int):aw E 152 [.arr 0 (59,2) [z.enc]] [.own 0 0,.d (.int .i64 0),.d (.int .i64 1),.d (.int .i64 lim),.fn (.func k) [] []] (fun a b=>a = .aF []∧b=[.arr 0 (59,2) [z.enc]]):=by
 have c1:=Vg z k;refine aw.run af (fn:=Tryz.f152) Tryz.func152 (body:=Tryz.f152.body.getD .skip) rfl (by decide) 2000 rfl ?_;(conv=>whnf);refine I.l4 ?_;refine I.run af Tryz.func152 2000 ?_;(conv=>whnf);refine aV (by decide) ?_;refine gO Tryz.func152 ?_
 with_reducible refine bF (c1) ?_
 refine gO Tryz.func152 ?_;exact ⟨rfl,rfl⟩
theorem Vi:aq E 232 [.int .u64 1] (· = .int .i64 1):=by
 refine eP Tryz.func232 ?_;refine aW (by decide) ?_;refine gO Tryz.func232 ?_;refine aW (by decide) ?_;refine gO Tryz.func232 ?_;refine aW (by decide) ?_;refine gO Tryz.func232 ?_;refine jl 1 (by decide) rfl ?_;refine gO Tryz.func232 ?_;rfl
theorem Vj:aq E 153 [.int .u64 1] (· = .int .i64 1):=by
 have c1:=Vi;refine eP Tryz.func153 ?_;refine aQ ?_;refine gO Tryz.func153 ?_
 with_reducible refine ao (c1) ?_
 refine gO Tryz.func153 ?_
 with_reducible rfl
theorem Vk (z:aR) (k:Nat):aw E 85 [.arr 0 (59,2) [z.enc]] [.own 0 0,.fn (.func k) [] []] (fun a b=>a = .aF []∧b=[.arr 0 (59,2) [z.enc]]):=by
 refine aw.run af (fn:=Tryz.f85) Tryz.func85 (body:=Tryz.f85.body.getD .skip) rfl (by decide) 2000 rfl ?_;(conv=>whnf);refine ao (r := .int .i64 1) Vj ?_;refine gO Tryz.func85 ?_
 with_reducible refine bF (Vh z k 1) ?_
 refine gO Tryz.func85 ?_;exact ⟨rfl,rfl⟩
@[reducible] def KZ (h : Host) (l : List bz) (a : cP) (hints : List Int) : DV := .agg [.sl [h.enc], .sl (l.map bz.enc), .str a.name, .int .i64 a.type, .int .i64 a.cD, .sl (a.data.map Datum.enc), .sl (hints.map (.int .i64))]
theorem Vl (h:Host) (a:cP) (hints:List Int) (q:bw) (hf:(⟨[h],[],a,hints⟩:mT).Fits) (hw:Ah ⟨[h],[],a,hints⟩=true) (hq:gg q=true) (ma:q.name.length≤maxLen):aq E 31 [KZ h [] a hints,.int .i64 h.addr,q.enc] (· = .aF [.agg [.int .i64 7,.sl [],.str []],.int .i64 0]):=by
 refine aq.norm ?_;have c1:=KX _ hf;have c2:=J1 q ma;rw [hw] at c1;rw [hq] at c2;have c3:=KY h;obtain ⟨qn,qt⟩:=q;show aq E _ [DV.agg [.sl [h.enc],.sl [],.str a.name,.int .i64 a.type,.int .i64 a.cD,.sl (a.data.map Datum.enc),.sl (hints.map (.int .i64))],_,.agg [.str qn,.int .i64 qt]] _;refine eP Tryz.func31 ?_;refine ao (c1) ?_;refine gO Tryz.func31 ?_;refine aQ ?_;refine gO Tryz.func31 ?_;refine ao (c2) ?_;refine gO Tryz.func31 ?_;refine aQ ?_;refine gO Tryz.func31 ?_
 with_reducible refine bF (c3) ?_
 refine gO Tryz.func31 ?_;refine aW (by decide) ?_;(conv=>whnf);repeat ((fail_if_success (first | (refine I.nO (fn:=Tryz.f82) rfl rfl nL (qb (bg rfl) (bg rfl)) Tryz.func82 rfl (by decide) ?_) | fail)); (refine I.run af Tryz.func31 1 ?_); (conv=>whnf))
 refine I.nO (fn:=Tryz.f82) rfl rfl nL (qb (bg rfl) (bg rfl)) Tryz.func82 rfl (by decide) ?_;(conv=>whnf);(conv=>whnf);repeat ((fail_if_success (first | (refine I.nP af Tryz.func82 rfl rfl rfl (L:=[]) rfl ?_) | fail)); (refine I.run af Tryz.func82 1 ?_); (conv=>whnf))
 refine I.nP af Tryz.func82 rfl rfl rfl (L:=[]) rfl ?_;(conv=>whnf);(conv=>whnf);repeat ((fail_if_success (first | (refine I.rangeFunc (bg rfl) Tryz.func151 rfl (by decide) rfl (fun ll d t=>?_)) | fail)); (refine I.run af Tryz.func31 1 ?_); (conv=>whnf))
 refine I.rangeFunc (bg rfl) Tryz.func151 rfl (by decide) rfl (fun ll d t=>?_);(conv=>whnf);refine gO Tryz.func151 ?_;refine I.l4 ?_;refine I.run af Tryz.func151 2000 ?_;(conv=>whnf);refine aW (by decide) ?_;refine gO Tryz.func151 ?_;refine I.jr af Tryz.func151 rfl rfl rfl rfl (fun e=>nomatch e) ?_;(conv=>whnf);refine gO Tryz.func31 ?_;refine aV (by decide) ?_;refine gO Tryz.func31 ?_;refine I.kx af Tryz.func31 rfl rfl rfl rfl rfl ?_;rfl
theorem Vm (h:Host) (z:aR) (a:cP) (hints:List Int) (q:bw) (hf:(⟨[h],[⟨0,z⟩],a,hints⟩:mT).Fits) (hw:Ah ⟨[h],[⟨0,z⟩],a,hints⟩=true) (hq:gg q=true) (ma:q.name.length≤maxLen) (hu:Nm.nM q.name z.aj=true):aq E 31 [KZ h [⟨0,z⟩] a hints,.int .i64 h.addr,q.enc] (· = .aF [(nb z q).enc,.int .i64 (pr z q)]):=by
 have eE:z.Fits:=hf.jw ⟨0,z⟩ (List.mem_singleton.2 rfl);have c1:=KX _ hf;have c2:=J1 q ma;rw [hw] at c1;rw [hq] at c2;have c3:=KY h;have c4:=Vf q z ma eE.aj hu;have c5:=U' z q eE ma;generalize nb z q=A at *;obtain ⟨ak,al,ac⟩:=A;obtain ⟨qn,qt⟩:=q;show aq E _ [DV.agg [.sl [h.enc],.sl [bz.enc ⟨0,z⟩],.str a.name,.int .i64 a.type,.int .i64 a.cD,.sl (a.data.map Datum.enc),.sl (hints.map (.int .i64))],_,.agg [.str qn,.int .i64 qt]] _;refine eP Tryz.func31 ?_;refine ao (c1) ?_;refine gO Tryz.func31 ?_;refine aQ ?_;refine gO Tryz.func31 ?_;refine ao (c2) ?_;refine gO Tryz.func31 ?_;refine aQ ?_;refine gO Tryz.func31 ?_
 with_reducible refine bF (c3) ?_
 refine gO Tryz.func31 ?_;refine aW (by decide) ?_;(conv=>whnf);repeat ((fail_if_success (first | (refine I.nO (fn:=Tryz.f82) rfl rfl nL (qb (bg rfl) (bg rfl)) Tryz.func82 rfl (by decide) ?_) | fail)); (refine I.run af Tryz.func31 1 ?_); (conv=>whnf))
 refine I.nO (fn:=Tryz.f82) rfl rfl nL (qb (bg rfl) (bg rfl)) Tryz.func82 rfl (by decide) ?_;(conv=>whnf);(conv=>whnf);repeat ((fail_if_success (first | (refine I.nP af Tryz.func82 rfl rfl rfl (L:=[]) rfl ?_) | fail)); (refine I.run af Tryz.func82 1 ?_); (conv=>whnf))
 refine I.nP af Tryz.func82 rfl rfl rfl (L:=[]) rfl ?_;(conv=>whnf);(conv=>whnf);repeat ((fail_if_success (first | (refine I.rangeFunc (bg rfl) Tryz.func151 rfl (by decide) rfl (fun ll d t=>?_)) | fail)); (refine I.run af Tryz.func31 1 ?_); (conv=>whnf))
 refine I.rangeFunc (bg rfl) Tryz.func151 rfl (by decide) rfl (fun ll d t=>?_);(conv=>whnf);refine gO Tryz.func151 ?_;refine I.l4 ?_;refine I.run af Tryz.func151 2000 ?_;(conv=>whnf);refine aV (by simp) ?_;refine gO Tryz.func151 ?_;refine aB (e:=bz.enc ⟨0,z⟩) ⟨by omega,rfl⟩ rfl ?_;refine gO Tryz.func151 ?_
 with_reducible refine bF (c4) ?_
 refine gO Tryz.func151 ?_;refine aY ?_;(conv=>whnf);repeat ((fail_if_success (first | (refine I.Kb 0 rfl (Kc rfl rfl rfl rfl) rfl (bg rfl) (qb (bg rfl) (bg rfl)) rfl ?_) | fail)); (refine I.run af Tryz.func151 1 ?_); (conv=>whnf))
 refine I.Kb 0 rfl (Kc rfl rfl rfl rfl) rfl (bg rfl) (qb (bg rfl) (bg rfl)) rfl ?_;(conv=>whnf);refine gO Tryz.func31 ?_;refine I.begin 0 rfl rfl rfl ?_;(conv=>whnf);refine gO Tryz.func31 ?_;refine bc ⟨by simp,by simp [DV.cells]⟩ ?_;refine gO Tryz.func31 ?_;refine I.nN 0 rfl rfl rfl ?_;(conv=>whnf);refine gO Tryz.func151 ?_;refine aY ?_;refine gO Tryz.func151 ?_;refine aQ ?_;refine gO Tryz.func151 ?_;refine I.again ?_;refine I.run af Tryz.func151 2000 ?_;(conv=>whnf);refine aW rfl ?_;refine gO Tryz.func151 ?_;refine I.jr af Tryz.func151 rfl rfl rfl rfl (fun e=>nomatch e) ?_;(conv=>whnf);refine gO Tryz.func31 ?_;refine aW (by simp) ?_;refine gO Tryz.func31 ?_
 with_reducible refine bF (Vk z 86) ?_
 refine gO Tryz.func31 ?_;refine bc (by simp) ?_;refine gO Tryz.func31 ?_;refine aB (e:=z.enc) ⟨by omega,rfl⟩ rfl ?_;refine gO Tryz.func31 ?_;repeat' (first | with_reducible refine ao (c5) ?_ | with_reducible refine au (c5) ?_ | with_reducible refine cY ?_ | with_reducible refine cN ?_ | with_reducible refine ah (fun _=>?_) (fun _=>?_) | refine gA Tryz.func31 ?_ | refine gB ?_ | with_reducible rfl)
 all_goals try (exfalso; simp_all; done)
 all_goals
  (conv=>whnf);refine gO Tryz.func31 ?_;refine I.kx af Tryz.func31 rfl rfl rfl rfl rfl ?_;rfl
end Go.Proofs.YtfmdaiojokniiaaGreatDoor.P
end
section
namespace Go.Proofs.YtfmdaiojokniiaaGreatDoor.P
open Go Go.ax
theorem VA {h:ca} (hg:h.Good) (hf:xM h=true):h.Fits∧h.aI.length≤20∧h.hints.length≤1000000∧h.mf:=by
 simp only [xM,uJ,Bool.and_eq_true,decide_eq_true_eq] at hf;obtain ⟨⟨h1,h2⟩,⟨⟨h3,h4⟩,h5⟩,h6⟩:=hf;rw [List.take_of_length_le (by omega)] at h1 h2;obtain ⟨g1,g2,g3,g4,g5⟩:=hg;have hz:∀ c∈h.aI,c.az.Fits∧c.az.jW∧c.az.mf:=fun c hc=>by
  have:=List.all_eq_true.1 h1 c hc;simp only [mY,Bool.and_eq_true] at this;exact DS (g2.2 c hc).2.2.2 this.1
 refine ⟨⟨fun x hx=>(g1.2 x hx).1,⟨g3.1,by omega,fun d hd=>(g3.2.2.2.2 d hd).1⟩,g4.1,fun c hc=>(hz c hc).1⟩,h3,by omega,⟨by omega,by omega,by omega,by omega,fun c hc=>(hz c hc).2.2⟩⟩
theorem VB {l:List Step} (hg:∀ s∈l,s.Good) (hf:xL l=true):Steps.Fits l∧l.length≤20:=by
 simp only [xL,Bool.and_eq_true,decide_eq_true_eq] at hf;obtain ⟨h1,h2⟩:=hf
 exact ⟨⟨fun s hs=>by
  have:=List.all_eq_true.1 h2 s hs;simp only [pn,Bool.and_eq_true,decide_eq_true_eq] at this
  exact ⟨fun x hx=>(DS (((hg s hs).2).2 x hx).2 (List.all_eq_true.1 this.2 x hx)).1,by omega⟩,by omega⟩,h1⟩
theorem Lf {s:Signed} (hg:s.Good) (h:s.set.data.length≤2147483648):s.ea:=⟨⟨hg.1.1,h,fun d hd=>(hg.1.2.2.2.2 d hd).1⟩,hg.2.1,fun g hx=>(hg.2.2 g hx).1⟩
theorem Lg {l:List Signed} (hg:∀ s∈l,s.Good) (h:sB l=true):∀ s∈l,s.ea:=fun s hs=>by
 simp only [sB,Bool.and_eq_true,decide_eq_true_eq] at h;rw [List.take_of_length_le (by omega)] at h;have:=List.all_eq_true.1 h.1 s hs;simp [uO] at this;exact Lf (hg s hs) (by omega)
theorem VC {t:fq} (hg:t.Good) (h:pk t=true):t.ea:=by
 obtain ⟨g1,-,g3,g4,-,g6,g7⟩:=hg;simp only [pk,Ap,Bool.and_eq_true,decide_eq_true_eq] at h;obtain ⟨⟨⟨⟨⟨⟨h1,h2⟩,h3,Ws⟩,h4⟩,h5⟩,h6⟩,h7⟩:=h;rw [List.take_of_length_le (by omega)] at h1 h3;refine ⟨g1.1,⟨g3.1,fun e he=>?_⟩,⟨g4.1,fun x hx=>?_⟩,g6.1,g7.1,Lg g7.2 h2⟩
 ·have:=List.all_eq_true.1 h3 e he;simp [xI] at this;exact ⟨Lf (g3.2 e he).1 (by omega),(g3.2 e he).2.1⟩
 ·have:=List.all_eq_true.1 h1 x hx;simp only [xK,Bool.and_eq_true] at this;obtain ⟨-,-,q3,-,q5,q6⟩:=g4.2 x hx;exact ⟨q3.1,q5.1,Lg q5.2 this.1.1.1,q6⟩
theorem VE {e:fL} (hg:e.Good) (h:xO e=true):e.Fits∧e.cw.length≤20:=by
 obtain ⟨g1,g2,g3,g4⟩:=hg;simp only [xO,Bool.and_eq_true,decide_eq_true_eq] at h;obtain ⟨⟨⟨⟨⟨h1,h2⟩,h3⟩,h4⟩,h5⟩,h6⟩:=h;rw [List.take_of_length_le (by omega)] at h1 h2;obtain ⟨f1,f2,f3,-⟩:=VA g1 h3;exact ⟨⟨f1,by omega,f3,(VB g2.2 h4).1,⟨g3.1,fun c hc=>(DS (g3.2 c hc).2.2 (List.all_eq_true.1 h1 c hc)).1⟩,g4.1,fun t ht=>VC (g4.2 t ht) (List.all_eq_true.1 h2 t ht)⟩,by omega⟩
theorem VF {e:fL} (hg:e.Good):∀ t∈e.iW,t.J8:=fun t ht=>by
 obtain ⟨-,-,g3,g4,-,-,g7⟩:=hg.2.2.2.2 t ht;exact ⟨g3.1,g4.1,fun x hx=>(g4.2 x hx).2.2.2.2.1.1,g7.1⟩
def va (t:Int) (l:List Claim):Int:=(l.getLast?.map (·.time)).getD t
theorem Lh {n:Nat} {fin:Int} {c:Claim}:∀ {l:List Claim} {t:Int} {S:List ly},iu n fin t S (l++[c])=true→mr n fin (va t l) (S++l.map Claim.key) c=true
 | [],t,S,h=>by
  simp only [List.nil_append,iu,Bool.and_eq_true] at h
  simpa [va] using h.1
 |a::l,t,S,h=>by
  simp only [List.cons_append,iu,Bool.and_eq_true] at h;have:=Lh h.2;rw [List.append_assoc] at this;rw [show va t (a::l)=va a.time l by cases l <;> simp [va,List.getLast?_cons]];exact this
theorem Li {n:Nat} {fin:Int}:∀ {l:List Claim} {t:Int} {S:List ly},iu n fin t S l=true→∀ c∈l,t≤c.time
 | [],_,_,_,c,hc=>by simp at hc
 |a::l,t,S,h,c,hc=>by
  simp only [iu,mr,Bool.and_eq_true,decide_eq_true_eq] at h;rcases List.mem_cons.1 hc with rfl | hc
  ·exact h.1.1.1.2
  ·exact Int.le_trans h.1.1.1.2 (Li h.2 c hc)
theorem VG {h:ca} {l:List Claim} {c:Claim} (hc:c.host=h.aA.length∨c.time=h.fin∨(∃ q,l.getLast? = some q∧(c=q∨c.time<q.time))):kI h (l++[c])=false:=by
 cases hb:kI h (l++[c]) with
 |false=>rfl
 |true =>
  simp only [kI,Bool.and_eq_true] at hb;have:=Lh hb.2;simp only [mr,gU,Bool.and_eq_true,decide_eq_true_eq,List.nil_append] at this;obtain ⟨⟨⟨⟨⟨k1,k2⟩,-⟩,k3⟩,k4⟩,k5⟩:=this;rcases hc with hc | hc | ⟨q,hq,hc | hc⟩
  ·omega
  ·omega
  ·subst hc;exact absurd (List.mem_map.2 ⟨c,List.mem_of_getLast? hq,rfl⟩) k5
  ·simp only [va,hq,Option.map_some,Option.getD_some] at k3;omega
end Go.Proofs.YtfmdaiojokniiaaGreatDoor.P
end
