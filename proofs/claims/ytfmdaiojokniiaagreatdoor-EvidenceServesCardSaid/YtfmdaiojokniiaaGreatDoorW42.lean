/- Several texts of mine, one behind the other. Conditions: as each says. -/
import Derived.Test.YtfmdaiojokniiaaGreatDoorW41
set_option linter.unusedVariables false
set_option linter.unusedSimpArgs false
namespace Go.Proofs.YtfmdaiojokniiaaGreatDoor.P
open Go Go.aw
set_option maxRecDepth 100000
set_option maxHeartbeats 4000000
def D6 (a:dj):DV := .agg [.int .i64 a.kind,if a.kind=0∨a.kind=7 then .aD else .sl (a.ae.map Signed.enc),.str a.cut]
theorem TA {z:aF} {q:br} {cut:Text} {b:Bool} (hu:Nm.under q.name z.ai=true) (h1:b=true→kX z q.name=some cut) (h0:b=false→kX z q.name=none) (hs:lV q cut b=true):oW z q=lU z q:=by
 rw [oW,if_pos hu];cases b
 ·rw [h0 rfl]
 ·rw [h1 rfl];simp [lV] at hs;simp [hs]
theorem TB {z:aF} {q:br} {cut:Text} (hu:Nm.under q.name z.ai=true) (h1:kX z q.name=some cut) (hs:lV q cut true=false):oW z q=⟨4,dn z.ae (jF z.ae cut),cut⟩:=by
 rw [oW,if_pos hu,h1];simp [lV] at hs;have:¬ (q.name=cut∧(q.type=6∨q.type=8)):=fun ⟨e1,e2⟩=>by
  have:=hs e1;omega
 simp [this]
theorem TC {z:aF} (V:gd z) {n c:Text} (h:kX z n=some c):Nm.valid c=true∧0≤aO z.ae ⟨c,2⟩:=by
 have hm:=List.mem_of_find?_eq_some h;obtain ⟨s,hs,e,hc⟩:=pU hm;have h2:=(D3 hm).1;refine ⟨e ▸ V.names s hs,?_⟩;rw [HS] at h2
 simpa using h2
theorem J1 (l:List Signed):∀ (L:List Text),kW l L <:+ L
 | []=>List.suffix_refl _
 |x::r=>by
  unfold kW;split
  ·exact List.suffix_refl _
  ·exact (J1 l r).trans (List.suffix_cons _ _)
theorem TD {t:Text}:∀ x∈Nm.labels t,(46:UInt8) ∉ x:=fun x hx=>by
 unfold Nm.labels at hx;split at hx
 ·cases hx
 ·exact Nm.GM t x hx
theorem TE {l:List Signed} {n w:Text} (h:qi l n=some w):Nm.valid w=true:=by
 have hM:∀ x∈[42]::kW l (Nm.labels n),(46:UInt8) ∉ x:=fun x hx=>by
  rcases List.mem_cons.1 hx with rfl | hx
  ·decide
  ·exact TD x ((J1 l _).subset hx)
 unfold qi mC at h;generalize kW l (Nm.labels n)=r at *;have e:fu ([42]::r)=Nm.glue ([42]::r):=by simp [fu]
 rw [e] at h;split at h
 ·rename_i q;cases h;simp only [Bool.and_eq_true,decide_eq_true_eq] at q;have hs:Nm.split (Nm.glue ([42]::r))=[42]::r:=Nm.GN _ (by simp) hM;simp [Nm.valid,hs,q.1,q.2]
 ·cases h
theorem J2 {p:Int} (h:0≤p):cz [p]=[p]:=by
 simp [cz,gb];omega
theorem TF (a b:Int):cz [a,b,-1]=cz [a,b]:=by
 simp [cz,gb]
theorem J3 {z:aF} (V:gd z) (t:Int):¬ 0≤aO z.ae ⟨[],t⟩:=fun h=>by
 obtain ⟨s,h1,h2⟩:=DT h;have e:=congrArg br.name (DU h2);have:=V.names s (List.mem_of_getElem? h1);simp only at e;rw [← e] at this;exact absurd this (by decide)
theorem TG (z:aF) (q:br) (hf:z.Fits) (hn:q.name.length≤maxLen):au E 88 [z.enc,q.enc] (· = .az [D6 (jG z q),.int .i64 (mD z q)]):=by
 have c1:=To z q.name hf hn;unfold D4 at c1;by_cases hq:iI q=false∨ep z=false
 ·have h1:mD z q=1:=by
   rw [mD];rcases hq with h | h <;> simp [h]
  rw [jG,h1,if_neg (by decide)];refine eP Tryz.func88 ?_;by_cases t1:q.type<1
  ·refine bg (decide_eq_true t1) ?_;refine gO Tryz.func88 ?_;refine aY ?_;refine gO Tryz.func88 ?_;rfl
  refine aW (decide_eq_false t1) ?_;refine gO Tryz.func88 ?_;by_cases t2:8<q.type
  ·refine bg (decide_eq_true t2) ?_;refine gO Tryz.func88 ?_;rfl
  refine aW (decide_eq_false t2) ?_;refine gO Tryz.func88 ?_;have e:(Nm.valid q.name&&ep z)=false:=by
   rcases hq with h | h
   ·have g1:1≤q.type:=by omega
    have g2:q.type≤8:=by omega
    simp [iI,g1,g2] at h;simp [h]
   ·simp [h]
  rw [e] at c1;refine ar (c1) ?_;refine gO Tryz.func88 ?_;refine aN ?_;refine gO Tryz.func88 ?_;refine aY ?_;refine gO Tryz.func88 ?_;rfl
 have h2:ep z=true:=by simpa using fun h=>hq (.inr h)
 have h3:iI q=true:=by simpa using fun h=>hq (.inl h)
 have hN:mD z q=0:=by simp [mD,h2,h3]
 have V:=JD h2;have hS:=IC h2;simp only [iI,Bool.and_eq_true,decide_eq_true_eq] at h3;obtain ⟨h3,h4,h5⟩:=h3;rw [jG,hN,if_pos rfl];rw [h2,h3] at c1;cases hu:Nm.under q.name z.ai
 ·rw [hu] at c1;have e:oW z q=⟨7,[],[]⟩:=by rw [oW,hu]; rfl
  rw [e];refine eP Tryz.func88 ?_;refine aW (decide_eq_false (by omega)) ?_;refine gO Tryz.func88 ?_;refine aW (decide_eq_false (by omega)) ?_;refine gO Tryz.func88 ?_;refine ar (c1) ?_;refine gO Tryz.func88 ?_;refine aY ?_;refine gO Tryz.func88 ?_;rfl
 rw [hu] at c1;obtain ⟨cut,b,k1,k2,k3⟩:∃ cut b,(b=true→kX z q.name=some cut)∧(b=false→kX z q.name=none)∧au E 155 [z.enc,.str q.name] (· = .az [.str cut,.bool b,.int .i64 0]):=by
  cases e:kX z q.name with
  |none=>rw [e] at c1; exact ⟨[],false,by simp,by simp,c1⟩
  |some c=>rw [e] at c1; exact ⟨c,true,by simp,by simp,c1⟩
 clear c1;have hv:=SQ z q (by have:=V.len; omega);refine eP Tryz.func88 ?_;refine aW (decide_eq_false (by omega)) ?_;refine gO Tryz.func88 ?_;refine aW (decide_eq_false (by omega)) ?_;refine gO Tryz.func88 ?_;refine ar (k3) ?_;refine gO Tryz.func88 ?_;refine aN ?_;refine gO Tryz.func88 ?_;refine aN ?_;refine gO Tryz.func88 ?_;refine vH (hv) rfl ?_;refine gO Tryz.func88 ?_;refine I.R2 ag rfl rfl rfl rfl rfl rfl rfl rfl rfl ?_;refine gO Tryz.func88 ?_;refine I.R3 ag rfl rfl rfl rfl rfl rfl (aM rfl) rfl ?_;refine gO Tryz.func88 ?_;refine I.jV ?_;refine I.run ag Tryz.func88 2000 ?_;(conv=>whnf);refine bg (by decide) ?_;refine gO Tryz.func88 ?_;refine I.nK ag (n:=0) rfl rfl rfl rfl rfl rfl (aM rfl) (aM rfl) rfl (by decide) ?_;refine gO Tryz.func88 ?_;cases hs:lV q cut b
 ·obtain rfl:b=true:=by
   cases b
   ·simp [lV] at hs
   ·rfl
  obtain ⟨v1,v2⟩:=TC V (k1 rfl);have r0:=Tz z q cut [] V hS v1 v2 hs;unfold bo aZ at r0;rw [TB hu (k1 rfl) hs]
  with_reducible refine bC (r0) ?_
  refine gO Tryz.func88 ?_;refine aY ?_;refine gO Tryz.func88 ?_;rfl
 have r0:=Ty z q cut b [] hs;unfold bo aZ at r0;rw [TA hu k1 k2 hs];clear k1 k2 k3 hs
 with_reducible refine bC (r0) ?_
 refine gO Tryz.func88 ?_;refine aN ?_;refine gO Tryz.func88 ?_;refine I.again ?_;refine I.run ag Tryz.func88 2000 ?_;(conv=>whnf);refine bg (by decide) ?_;refine gO Tryz.func88 ?_;refine I.nK ag (n:=1) rfl rfl rfl rfl rfl rfl (aM rfl) (aM rfl) rfl (by decide) ?_;refine gO Tryz.func88 ?_;have r1:=S6 z q cut b [] V hS;unfold bo aZ at r1
 with_reducible refine bC (r1) ?_
 refine gO Tryz.func88 ?_;by_cases d1:0≤aO z.ae q
 ·refine bg (by simpa using d1) ?_;refine gO Tryz.func88 ?_;rw [lU,if_pos d1,J2 d1];rfl
 refine aW (by simpa using d1) ?_;refine gO Tryz.func88 ?_;refine I.again ?_;refine I.run ag Tryz.func88 2000 ?_;(conv=>whnf);refine bg (by decide) ?_;refine gO Tryz.func88 ?_;refine I.nK ag (n:=2) rfl rfl rfl rfl rfl rfl (aM rfl) (aM rfl) rfl (by decide) ?_;refine gO Tryz.func88 ?_;have r2:=S7 z q cut b [] V hS;unfold bo aZ at r2
 with_reducible refine bC (r2) ?_
 refine gO Tryz.func88 ?_;by_cases d2:0≤aO z.ae ⟨q.name,3⟩∧q.type≠8
 ·refine bg (by simpa using d2) ?_;refine gO Tryz.func88 ?_;rw [lU,if_neg d1,if_pos d2,J2 d2.1];rfl
 refine aW (by simpa using d2) ?_;refine gO Tryz.func88 ?_;refine I.again ?_;refine I.run ag Tryz.func88 2000 ?_;(conv=>whnf);refine bg (by decide) ?_;refine gO Tryz.func88 ?_;refine I.nK ag (n:=3) rfl rfl rfl rfl rfl rfl (aM rfl) (aM rfl) rfl (by decide) ?_;refine gO Tryz.func88 ?_;cases he:iM z.ae q.name
 case true =>
  have r3:=Tt z q cut b [] V hS h3 he;unfold bo aZ at r3
  with_reducible refine bC (r3) ?_
  refine gO Tryz.func88 ?_;refine aY ?_;refine gO Tryz.func88 ?_;rw [lU,if_neg d1,if_neg d2,if_pos he];rfl
 have r3:=Tu z q cut b [] V h3 hu he;unfold bo aZ at r3;rw [lU,if_neg d1,if_neg d2,he,if_neg (by decide)];clear d1 d2 he r0 r1 r2;cases hw:qi z.ae q.name with
 |none =>
  rw [hw] at r3;simp only [Option.getD_none] at r3;have r4:=JM z q cut b [] V hS h3;have r5:=JN z q cut b [] V hS h3;have r6:=J0 z q cut b [] V (.inl rfl);have r7:=JO z q cut b [] V hS h3 (.inl rfl);rw [if_pos rfl,TF] at r7;unfold bo aZ at r4 r5 r6 r7
  with_reducible refine bC (r3) ?_
  refine gO Tryz.func88 ?_;refine aN ?_;refine gO Tryz.func88 ?_;refine I.again ?_;refine I.run ag Tryz.func88 2000 ?_;(conv=>whnf);refine bg (by decide) ?_;refine gO Tryz.func88 ?_;refine I.nK ag (n:=4) rfl rfl rfl rfl rfl rfl (aM rfl) (aM rfl) rfl (by decide) ?_;refine gO Tryz.func88 ?_
  with_reducible refine bC (r4) ?_
  refine gO Tryz.func88 ?_;refine aW (by simpa using J3 V q.type) ?_;refine gO Tryz.func88 ?_;refine I.again ?_;refine I.run ag Tryz.func88 2000 ?_;(conv=>whnf);refine bg (by decide) ?_;refine gO Tryz.func88 ?_;refine I.nK ag (n:=5) rfl rfl rfl rfl rfl rfl (aM rfl) (aM rfl) rfl (by decide) ?_;refine gO Tryz.func88 ?_
  with_reducible refine bC (r5) ?_
  refine gO Tryz.func88 ?_;refine aW (by have:=J3 V 3; simp; omega) ?_;refine gO Tryz.func88 ?_;refine I.again ?_;refine I.run ag Tryz.func88 2000 ?_;(conv=>whnf);refine bg (by decide) ?_;refine gO Tryz.func88 ?_;refine I.nK ag (n:=6) rfl rfl rfl rfl rfl rfl (aM rfl) (aM rfl) rfl (by decide) ?_;refine gO Tryz.func88 ?_
  with_reducible refine bC (r6) ?_
  refine gO Tryz.func88 ?_;refine aN ?_;refine gO Tryz.func88 ?_;refine I.again ?_;refine I.run ag Tryz.func88 2000 ?_;(conv=>whnf);refine aW (by decide) ?_;refine gO Tryz.func88 ?_
  with_reducible refine bC (r7) ?_
  refine gO Tryz.func88 ?_;rfl
 |some w =>
  rw [hw] at r3;simp only [Option.getD_some] at r3;have sh:=TE hw;have TH:w≠[]:=fun e=>by rw [e] at sh; exact absurd sh (by decide)
  have r4:=JM z q cut b w V hS h3;have r5:=JN z q cut b w V hS h3;have r7:=JO z q cut b w V hS h3 (.inr sh);rw [if_neg TH] at r7;unfold bo aZ at r4 r5 r7
  with_reducible refine bC (r3) ?_
  refine gO Tryz.func88 ?_;refine aN ?_;refine gO Tryz.func88 ?_;refine I.again ?_;refine I.run ag Tryz.func88 2000 ?_;(conv=>whnf);refine bg (by decide) ?_;refine gO Tryz.func88 ?_;refine I.nK ag (n:=4) rfl rfl rfl rfl rfl rfl (aM rfl) (aM rfl) rfl (by decide) ?_;refine gO Tryz.func88 ?_
  with_reducible refine bC (r4) ?_
  refine gO Tryz.func88 ?_;by_cases d4:0≤aO z.ae ⟨w,q.type⟩
  ·refine bg (by simpa using d4) ?_;refine gO Tryz.func88 ?_;simp only [if_pos d4];rfl
  refine aW (by simpa using d4) ?_;refine gO Tryz.func88 ?_;refine I.again ?_;refine I.run ag Tryz.func88 2000 ?_;(conv=>whnf);refine bg (by decide) ?_;refine gO Tryz.func88 ?_;refine I.nK ag (n:=5) rfl rfl rfl rfl rfl rfl (aM rfl) (aM rfl) rfl (by decide) ?_;refine gO Tryz.func88 ?_
  with_reducible refine bC (r5) ?_
  refine gO Tryz.func88 ?_;by_cases d5:0≤aO z.ae ⟨w,3⟩∧q.type≠8
  ·refine bg (by simpa using d5) ?_;refine gO Tryz.func88 ?_;simp only [if_neg d4,if_pos d5];rfl
  refine aW (by simpa using d5) ?_;refine gO Tryz.func88 ?_;refine I.again ?_;refine I.run ag Tryz.func88 2000 ?_;(conv=>whnf);refine bg (by decide) ?_;refine gO Tryz.func88 ?_;refine I.nK ag (n:=6) rfl rfl rfl rfl rfl rfl (aM rfl) (aM rfl) rfl (by decide) ?_;refine gO Tryz.func88 ?_;cases he:iM z.ae w
  case true =>
   have r6:=Tv z q cut b w V hS h3 sh he;unfold bo aZ at r6
   with_reducible refine bC (r6) ?_
   refine gO Tryz.func88 ?_;refine aY ?_;refine gO Tryz.func88 ?_;simp only [if_neg d4,if_neg d5,if_pos he];rfl
  have r6:=J0 z q cut b w V (.inr ⟨sh,he⟩);unfold bo aZ at r6
  with_reducible refine bC (r6) ?_
  refine gO Tryz.func88 ?_;refine aN ?_;refine gO Tryz.func88 ?_;refine I.again ?_;refine I.run ag Tryz.func88 2000 ?_;(conv=>whnf);refine aW (by decide) ?_;refine gO Tryz.func88 ?_
  with_reducible refine bC (r7) ?_
  refine gO Tryz.func88 ?_;simp only [if_neg d4,if_neg d5,he];rfl
end Go.Proofs.YtfmdaiojokniiaaGreatDoor.P
