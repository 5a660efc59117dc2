/- Several texts of mine, one behind the other. Conditions: as each says. -/
import Derived.Test.YtfmdaiojokniiaaGreatDoorY24
import Derived.Test.YtfmdaiojokniiaaGreatDoorY38
set_option linter.unusedVariables false
set_option linter.unusedSimpArgs false
namespace Go.Proofs.YtfmdaiojokniiaaGreatDoor.P
open Go Go.ax
set_option maxRecDepth 100000
set_option maxHeartbeats 4000000
def EK (a:dP):DV := .agg [.int .i64 a.kind,if a.kind=0∨a.kind=7 then .aL else .sl (a.ab.map Signed.enc),.str a.cut]
theorem UY {z:aR} {q:bw} {cut:Text} {b:Bool} (hu:Nm.under q.name z.aj=true) (h1:b=true→lE z q.name=some cut) (h0:b=false→lE z q.name=none) (hs:mv q cut b=true):qC z q=oa z q:=by
 rw [qC,if_pos hu];cases b
 ·rw [h0 rfl]
 ·rw [h1 rfl];simp [mv] at hs;simp [hs]
theorem UZ {z:aR} {q:bw} {cut:Text} (hu:Nm.under q.name z.aj=true) (h1:lE z q.name=some cut) (hs:mv q cut true=false):qC z q=⟨4,dV z.ab (ka z.ab cut),cut⟩:=by
 rw [qC,if_pos hu,h1];simp [mv] at hs;have:¬ (q.name=cut∧(q.type=6∨q.type=8)):=fun ⟨e1,e2⟩=>by
  have:=hs e1;omega
 simp [this]
theorem U0 {z:aR} (V:gv z) {n c:Text} (h:lE z n=some c):Nm.valid c=true∧0≤aU z.ab ⟨c,2⟩:=by
 have hm:=List.mem_of_find?_eq_some h;obtain ⟨s,hs,e,hc⟩:=nR hm;have h2:=(EH hm).1;refine ⟨e ▸ V.names s hs,?_⟩;rw [IF] at h2
 simpa using h2
theorem KT (l:List Signed):∀ (L:List Text),lD l L <:+ L
 | []=>List.suffix_refl _
 |x::r=>by
  unfold lD;split
  ·exact List.suffix_refl _
  ·exact (KT l r).trans (List.suffix_cons _ _)
theorem U1 {t:Text}:∀ x∈Nm.labels t,(46:UInt8) ∉ x:=fun x hx=>by
 unfold Nm.labels at hx;split at hx
 ·cases hx
 ·exact Nm.He t x hx
theorem U2 {l:List Signed} {n w:Text} (h:qB l n=some w):Nm.valid w=true:=by
 have hM:∀ x∈[42]::lD l (Nm.labels n),(46:UInt8) ∉ x:=fun x hx=>by
  rcases List.mem_cons.1 hx with rfl | hx
  ·decide
  ·exact U1 x ((KT l _).subset hx)
 unfold qB na at h;generalize lD l (Nm.labels n)=r at *;have e:fC ([42]::r)=Nm.glue ([42]::r):=by simp [fC]
 rw [e] at h;split at h
 ·rename_i q;cases h;simp only [Bool.and_eq_true,decide_eq_true_eq] at q;have hs:Nm.split (Nm.glue ([42]::r))=[42]::r:=Nm.Hf _ (by simp) hM;simp [Nm.valid,hs,q.1,q.2]
 ·cases h
theorem KU {p:Int} (h:0≤p):cF [p]=[p]:=by
 simp [cF,jA];omega
theorem U3 (a b:Int):cF [a,b,-1]=cF [a,b]:=by
 simp [cF,jA]
theorem KV {z:aR} (V:gv z) (t:Int):¬ 0≤aU z.ab ⟨[],t⟩:=fun h=>by
 obtain ⟨s,h1,h2⟩:=Ex h;have e:=congrArg bw.name (Ey h2);have:=V.names s (List.mem_of_getElem? h1);simp only at e;rw [← e] at this;exact absurd this (by decide)
theorem U4 (z:aR) (q:bw) (hf:z.Fits) (hn:q.name.length≤maxLen):aq E 88 [z.enc,q.enc] (· = .aF [EK (nb z q),.int .i64 (pr z q)]):=by
 have c1:=UM z q.name hf hn;unfold EI at c1;by_cases hq:gg q=false∨dI z=false
 ·have h1:pr z q=1:=by
   rw [pr];rcases hq with h | h <;> simp [h]
  rw [nb,h1,if_neg (by decide)];refine eP Tryz.func88 ?_;by_cases t1:q.type<1
  ·refine aV (decide_eq_true t1) ?_;refine gO Tryz.func88 ?_;refine aY ?_;refine gO Tryz.func88 ?_;rfl
  refine aW (decide_eq_false t1) ?_;refine gO Tryz.func88 ?_;by_cases t2:8<q.type
  ·refine aV (decide_eq_true t2) ?_;refine gO Tryz.func88 ?_;rfl
  refine aW (decide_eq_false t2) ?_;refine gO Tryz.func88 ?_;have e:(Nm.valid q.name&&dI z)=false:=by
   rcases hq with h | h
   ·have g1:1≤q.type:=by omega
    have g2:q.type≤8:=by omega
    simp [gg,g1,g2] at h;simp [h]
   ·simp [h]
  rw [e] at c1;refine ao (c1) ?_;refine gO Tryz.func88 ?_;refine aQ ?_;refine gO Tryz.func88 ?_;refine aY ?_;refine gO Tryz.func88 ?_;rfl
 have h2:dI z=true:=by simpa using fun h=>hq (.inr h)
 have h3:gg q=true:=by simpa using fun h=>hq (.inl h)
 have hN:pr z q=0:=by simp [pr,h2,h3]
 have V:=Kw h2;have hS:=Jm h2;simp only [gg,Bool.and_eq_true,decide_eq_true_eq] at h3;obtain ⟨h3,h4,h5⟩:=h3;rw [nb,hN,if_pos rfl];rw [h2,h3] at c1;cases hu:Nm.under q.name z.aj
 ·rw [hu] at c1;have e:qC z q=⟨7,[],[]⟩:=by rw [qC,hu]; rfl
  rw [e];refine eP Tryz.func88 ?_;refine aW (decide_eq_false (by omega)) ?_;refine gO Tryz.func88 ?_;refine aW (decide_eq_false (by omega)) ?_;refine gO Tryz.func88 ?_;refine ao (c1) ?_;refine gO Tryz.func88 ?_;refine aY ?_;refine gO Tryz.func88 ?_;rfl
 rw [hu] at c1;obtain ⟨cut,b,k1,k2,k3⟩:∃ cut b,(b=true→lE z q.name=some cut)∧(b=false→lE z q.name=none)∧aq E 155 [z.enc,.str q.name] (· = .aF [.str cut,.bool b,.int .i64 0]):=by
  cases e:lE z q.name with
  |none=>rw [e] at c1; exact ⟨[],false,by simp,by simp,c1⟩
  |some c=>rw [e] at c1; exact ⟨c,true,by simp,by simp,c1⟩
 clear c1;have hv:=Uf z q (by have:=V.len; omega);refine eP Tryz.func88 ?_;refine aW (decide_eq_false (by omega)) ?_;refine gO Tryz.func88 ?_;refine aW (decide_eq_false (by omega)) ?_;refine gO Tryz.func88 ?_;refine ao (k3) ?_;refine gO Tryz.func88 ?_;refine aQ ?_;refine gO Tryz.func88 ?_;refine aQ ?_;refine gO Tryz.func88 ?_;refine wm (hv) rfl ?_;refine gO Tryz.func88 ?_;refine I.Ts af rfl rfl rfl rfl rfl rfl rfl rfl rfl ?_;refine gO Tryz.func88 ?_;refine I.Tt af rfl rfl rfl rfl rfl rfl (bg rfl) rfl ?_;refine gO Tryz.func88 ?_;refine I.l4 ?_;refine I.run af Tryz.func88 2000 ?_;(conv=>whnf);refine aV (by decide) ?_;refine gO Tryz.func88 ?_;refine I.n4 af (n:=0) rfl rfl rfl rfl rfl rfl (bg rfl) (bg rfl) rfl (by decide) ?_;refine gO Tryz.func88 ?_;cases hs:mv q cut b
 ·obtain rfl:b=true:=by
   cases b
   ·simp [mv] at hs
   ·rfl
  obtain ⟨v1,v2⟩:=U0 V (k1 rfl);have r0:=UX z q cut [] V hS v1 v2 hs;unfold bq bh at r0;rw [UZ hu (k1 rfl) hs]
  with_reducible refine bF (r0) ?_
  refine gO Tryz.func88 ?_;refine aY ?_;refine gO Tryz.func88 ?_;rfl
 have r0:=UW z q cut b [] hs;unfold bq bh at r0;rw [UY hu k1 k2 hs];clear k1 k2 k3 hs
 with_reducible refine bF (r0) ?_
 refine gO Tryz.func88 ?_;refine aQ ?_;refine gO Tryz.func88 ?_;refine I.again ?_;refine I.run af Tryz.func88 2000 ?_;(conv=>whnf);refine aV (by decide) ?_;refine gO Tryz.func88 ?_;refine I.n4 af (n:=1) rfl rfl rfl rfl rfl rfl (bg rfl) (bg rfl) rfl (by decide) ?_;refine gO Tryz.func88 ?_;have r1:=Ut z q cut b [] V hS;unfold bq bh at r1
 with_reducible refine bF (r1) ?_
 refine gO Tryz.func88 ?_;by_cases d1:0≤aU z.ab q
 ·refine aV (by simpa using d1) ?_;refine gO Tryz.func88 ?_;rw [oa,if_pos d1,KU d1];rfl
 refine aW (by simpa using d1) ?_;refine gO Tryz.func88 ?_;refine I.again ?_;refine I.run af Tryz.func88 2000 ?_;(conv=>whnf);refine aV (by decide) ?_;refine gO Tryz.func88 ?_;refine I.n4 af (n:=2) rfl rfl rfl rfl rfl rfl (bg rfl) (bg rfl) rfl (by decide) ?_;refine gO Tryz.func88 ?_;have r2:=Uu z q cut b [] V hS;unfold bq bh at r2
 with_reducible refine bF (r2) ?_
 refine gO Tryz.func88 ?_;by_cases d2:0≤aU z.ab ⟨q.name,3⟩∧q.type≠8
 ·refine aV (by simpa using d2) ?_;refine gO Tryz.func88 ?_;rw [oa,if_neg d1,if_pos d2,KU d2.1];rfl
 refine aW (by simpa using d2) ?_;refine gO Tryz.func88 ?_;refine I.again ?_;refine I.run af Tryz.func88 2000 ?_;(conv=>whnf);refine aV (by decide) ?_;refine gO Tryz.func88 ?_;refine I.n4 af (n:=3) rfl rfl rfl rfl rfl rfl (bg rfl) (bg rfl) rfl (by decide) ?_;refine gO Tryz.func88 ?_;cases he:jc z.ab q.name
 case true =>
  have r3:=UR z q cut b [] V hS h3 he;unfold bq bh at r3
  with_reducible refine bF (r3) ?_
  refine gO Tryz.func88 ?_;refine aY ?_;refine gO Tryz.func88 ?_;rw [oa,if_neg d1,if_neg d2,if_pos he];rfl
 have r3:=US z q cut b [] V h3 hu he;unfold bq bh at r3;rw [oa,if_neg d1,if_neg d2,he,if_neg (by decide)];clear d1 d2 he r0 r1 r2;cases hw:qB z.ab q.name with
 |none =>
  rw [hw] at r3;simp only [Option.getD_none] at r3;have r4:=KE z q cut b [] V hS h3;have r5:=KF z q cut b [] V hS h3;have r6:=KS z q cut b [] V (.inl rfl);have r7:=KG z q cut b [] V hS h3 (.inl rfl);rw [if_pos rfl,U3] at r7;unfold bq bh at r4 r5 r6 r7
  with_reducible refine bF (r3) ?_
  refine gO Tryz.func88 ?_;refine aQ ?_;refine gO Tryz.func88 ?_;refine I.again ?_;refine I.run af Tryz.func88 2000 ?_;(conv=>whnf);refine aV (by decide) ?_;refine gO Tryz.func88 ?_;refine I.n4 af (n:=4) rfl rfl rfl rfl rfl rfl (bg rfl) (bg rfl) rfl (by decide) ?_;refine gO Tryz.func88 ?_
  with_reducible refine bF (r4) ?_
  refine gO Tryz.func88 ?_;refine aW (by simpa using KV V q.type) ?_;refine gO Tryz.func88 ?_;refine I.again ?_;refine I.run af Tryz.func88 2000 ?_;(conv=>whnf);refine aV (by decide) ?_;refine gO Tryz.func88 ?_;refine I.n4 af (n:=5) rfl rfl rfl rfl rfl rfl (bg rfl) (bg rfl) rfl (by decide) ?_;refine gO Tryz.func88 ?_
  with_reducible refine bF (r5) ?_
  refine gO Tryz.func88 ?_;refine aW (by have:=KV V 3; simp; omega) ?_;refine gO Tryz.func88 ?_;refine I.again ?_;refine I.run af Tryz.func88 2000 ?_;(conv=>whnf);refine aV (by decide) ?_;refine gO Tryz.func88 ?_;refine I.n4 af (n:=6) rfl rfl rfl rfl rfl rfl (bg rfl) (bg rfl) rfl (by decide) ?_;refine gO Tryz.func88 ?_
  with_reducible refine bF (r6) ?_
  refine gO Tryz.func88 ?_;refine aQ ?_;refine gO Tryz.func88 ?_;refine I.again ?_;refine I.run af Tryz.func88 2000 ?_;(conv=>whnf);refine aW (by decide) ?_;refine gO Tryz.func88 ?_
  with_reducible refine bF (r7) ?_
  refine gO Tryz.func88 ?_;rfl
 |some w =>
  rw [hw] at r3;simp only [Option.getD_some] at r3;have xY:=U2 hw;have U5:w≠[]:=fun e=>by rw [e] at xY; exact absurd xY (by decide)
  have r4:=KE z q cut b w V hS h3;have r5:=KF z q cut b w V hS h3;have r7:=KG z q cut b w V hS h3 (.inr xY);rw [if_neg U5] at r7;unfold bq bh at r4 r5 r7
  with_reducible refine bF (r3) ?_
  refine gO Tryz.func88 ?_;refine aQ ?_;refine gO Tryz.func88 ?_;refine I.again ?_;refine I.run af Tryz.func88 2000 ?_;(conv=>whnf);refine aV (by decide) ?_;refine gO Tryz.func88 ?_;refine I.n4 af (n:=4) rfl rfl rfl rfl rfl rfl (bg rfl) (bg rfl) rfl (by decide) ?_;refine gO Tryz.func88 ?_
  with_reducible refine bF (r4) ?_
  refine gO Tryz.func88 ?_;by_cases d4:0≤aU z.ab ⟨w,q.type⟩
  ·refine aV (by simpa using d4) ?_;refine gO Tryz.func88 ?_;simp only [if_pos d4];rfl
  refine aW (by simpa using d4) ?_;refine gO Tryz.func88 ?_;refine I.again ?_;refine I.run af Tryz.func88 2000 ?_;(conv=>whnf);refine aV (by decide) ?_;refine gO Tryz.func88 ?_;refine I.n4 af (n:=5) rfl rfl rfl rfl rfl rfl (bg rfl) (bg rfl) rfl (by decide) ?_;refine gO Tryz.func88 ?_
  with_reducible refine bF (r5) ?_
  refine gO Tryz.func88 ?_;by_cases d5:0≤aU z.ab ⟨w,3⟩∧q.type≠8
  ·refine aV (by simpa using d5) ?_;refine gO Tryz.func88 ?_;simp only [if_neg d4,if_pos d5];rfl
  refine aW (by simpa using d5) ?_;refine gO Tryz.func88 ?_;refine I.again ?_;refine I.run af Tryz.func88 2000 ?_;(conv=>whnf);refine aV (by decide) ?_;refine gO Tryz.func88 ?_;refine I.n4 af (n:=6) rfl rfl rfl rfl rfl rfl (bg rfl) (bg rfl) rfl (by decide) ?_;refine gO Tryz.func88 ?_;cases he:jc z.ab w
  case true =>
   have r6:=UT z q cut b w V hS h3 xY he;unfold bq bh at r6
   with_reducible refine bF (r6) ?_
   refine gO Tryz.func88 ?_;refine aY ?_;refine gO Tryz.func88 ?_;simp only [if_neg d4,if_neg d5,if_pos he];rfl
  have r6:=KS z q cut b w V (.inr ⟨xY,he⟩);unfold bq bh at r6
  with_reducible refine bF (r6) ?_
  refine gO Tryz.func88 ?_;refine aQ ?_;refine gO Tryz.func88 ?_;refine I.again ?_;refine I.run af Tryz.func88 2000 ?_;(conv=>whnf);refine aW (by decide) ?_;refine gO Tryz.func88 ?_
  with_reducible refine bF (r7) ?_
  refine gO Tryz.func88 ?_;simp only [if_neg d4,if_neg d5,he];rfl
end Go.Proofs.YtfmdaiojokniiaaGreatDoor.P
