/- Several texts of mine, one behind the other. Conditions: as each says. -/
import Derived.Test.YtfmdaiojokniiaaGreatDoorV25
import Derived.Test.YtfmdaiojokniiaaGreatDoorV40
import Derived.Shelf.SortM.SortNone
set_option linter.unusedVariables false
set_option linter.unusedSimpArgs false
section
namespace Go.Proofs.YtfmdaiojokniiaaGreatDoor.P
open Go Go.aw Go.Sort
set_option maxRecDepth 100000
set_option maxHeartbeats 4000000
theorem TX:KG Tryz.prog 182:=fun blk cap zs w hH hblk bQ=>AnyM.slices_Sort_int Tryz.sortInt blk 0 cap zs w hH hblk bQ
theorem TY (l:List Int) (hl:l≠[]) (hlen:l.length<4611686018427387904) :
  au E 182 [.arr 0 (3,1) (l.map (DV.int .i64))] [.own 0 0] (fun a b=>a = .aD []∧b=[.arr 0 (3,1) ((fu l).map (DV.int .i64))]) :=
 TW TX ⟨_,Tryz.func182,rfl,by decide⟩ l hl hlen
end Go.Proofs.YtfmdaiojokniiaaGreatDoor.P
end
section
namespace Go.Proofs.YtfmdaiojokniiaaGreatDoor.P
open Go Go.aw Go.Sort
set_option maxRecDepth 100000
set_option maxHeartbeats 4000000
theorem KI {G:List (Nat × DV)} {s:List AV}:aY G s (.const (.slice none 0 0)) (.d .aH):=fun c a _ _ => .d _ _ .aH
theorem TZ:au E 182 [.arr 0 (3,1) []] [.own 0 0] (fun a b=>a = .aD []∧b=[.arr 0 (3,1) []]):=by
 unfold au;refine ⟨⟨_,Tryz.func182,rfl,by decide⟩,lB rfl,fun c vs h1 h2 h3=>?_⟩;obtain ⟨v1,rfl⟩:∃ v1,vs=[v1]:=by
  have:=h3.1
  match vs,this with
  | [a],_=>exact ⟨a,rfl⟩
 have cQ:c.heap[0]? = some (.arr 0 (3,1) []):=by rw [h1]; rfl
 obtain ⟨p,cap,rfl⟩:∃ p cap,v1 = .slice p 0 cap:=by
  rcases ln cQ (h3.2 0 _ v1 rfl rfl) with ⟨blk,cap,_,rfl⟩ | ⟨_,rfl,_⟩
  ·exact ⟨_,cap,rfl⟩
  ·exact ⟨_,_,rfl⟩
 refine (AnyM.slices_Sort_int_none Tryz.sortInt p cap c.w).mono fun e w' ⟨a1,a2⟩=>?_;subst a2;exact ⟨c,.aD [],.tuple #[],a1,rfl,⟨rfl,h1⟩,.aD [] #[] rfl (fun j x v hx=>by simp at hx),h2,Rel.refl c (by rw [h1]; exact lB rfl)⟩
theorem T0 (l:List Int) (hlen:l.length<4611686018427387904):au E 182 [.arr 0 (3,1) (l.map (DV.int .i64))] [.own 0 0] (fun a b=>a = .aD []∧b=[.arr 0 (3,1) ((fu l).map (DV.int .i64))]):=by
 by_cases h:l=[]
 ·subst h;have e:fu []=[]:=List.perm_nil.1 (s7 []);rw [e];exact TZ
 ·exact TY l h hlen
theorem T1 {es:List (DV × DV)} (h:lR (DV.int .i64) es):∀ p∈es,cW E.T (.int .i64) p.1:=fun p hp=>by
 obtain ⟨n,e⟩:=h p hp;rw [e];exact ⟨_,rfl⟩
theorem T2 (es:List (DV × DV)):au E 110 [.map es] [.map 0] (fun a b=>a = .fn (.func 183) [] [.ptr 1 0]∧b=[.map es,.cells [.map 0]]):=by
 refine au.run af (fn:=Tryz.f110) Tryz.func110 (body:=Tryz.f110.body.getD .skip) rfl (by decide) 2000 rfl ?_;(conv=>whnf);exact ⟨rfl,rfl⟩
end Go.Proofs.YtfmdaiojokniiaaGreatDoor.P
end
section
namespace Go.Proofs.YtfmdaiojokniiaaGreatDoor.P
open Go Go.aw
set_option maxRecDepth 100000
set_option maxHeartbeats 4000000
def Fa (a:dC):DV := .agg [.int .i64 a.kind,if a.kind=0∨a.kind=7 then .aH else .sl (a.ab.map Signed.enc),.str a.cut]
theorem Vh {z:aG} {q:bj} {cut:Text} {b:Bool} (hu:Nm.under q.name z.ah=true) (h1:b=true→lZ z q.name=some cut) (h0:b=false→lZ z q.name=none) (hs:mP q cut b=true):nI z q=kX z q:=by
 rw [nI,if_pos hu];cases b
 ·rw [h0 rfl]
 ·rw [h1 rfl];simp [mP] at hs;simp [hs]
theorem Vi {z:aG} {q:bj} {cut:Text} (hu:Nm.under q.name z.ah=true) (h1:lZ z q.name=some cut) (hs:mP q cut true=false):nI z q=⟨4,dq z.ab (ki z.ab cut),cut⟩:=by
 rw [nI,if_pos hu,h1];simp [mP] at hs;have:¬ (q.name=cut∧(q.type=6∨q.type=8)):=fun ⟨e1,e2⟩=>by
  have:=hs e1;omega
 simp [this]
theorem Vj {z:aG} (V:gM z) {n c:Text} (h:lZ z n=some c):Nm.valid c=true∧0≤aU z.ab ⟨c,2⟩:=by
 have hm:=List.mem_of_find?_eq_some h;obtain ⟨s,hs,e,hc⟩:=ou hm;have h2:=(E8 hm).1;refine ⟨e ▸ V.names s hs,?_⟩;rw [Jh] at h2
 simpa using h2
theorem Lg (l:List Signed):∀ (L:List Text),lY l L <:+ L
 | []=>List.suffix_refl _
 |x::r=>by
  unfold lY;split
  ·exact List.suffix_refl _
  ·exact (Lg l r).trans (List.suffix_cons _ _)
theorem Vk {t:Text}:∀ x∈Nm.labels t,(46:UInt8) ∉ x:=fun x hx=>by
 unfold Nm.labels at hx;split at hx
 ·cases hx
 ·exact Nm.HN t x hx
theorem Vl {l:List Signed} {n w:Text} (h:rh l n=some w):Nm.valid w=true:=by
 have hM:∀ x∈[42]::lY l (Nm.labels n),(46:UInt8) ∉ x:=fun x hx=>by
  rcases List.mem_cons.1 hx with rfl | hx
  ·decide
  ·exact Vk x ((Lg l _).subset hx)
 unfold rh nH at h;generalize lY l (Nm.labels n)=r at *;have e:fI ([42]::r)=Nm.glue ([42]::r):=by simp [fI]
 rw [e] at h;split at h
 ·rename_i q;cases h;simp only [Bool.and_eq_true,decide_eq_true_eq] at q;have hs:Nm.split (Nm.glue ([42]::r))=[42]::r:=Nm.HO _ (by simp) hM;simp [Nm.valid,hs,q.1,q.2]
 ·cases h
theorem Lh {p:Int} (h:0≤p):cA [p]=[p]:=by
 simp [cA,gL];omega
theorem Vm (a b:Int):cA [a,b,-1]=cA [a,b]:=by
 simp [cA,gL]
theorem Li {z:aG} (V:gM z) (t:Int):¬ 0≤aU z.ab ⟨[],t⟩:=fun h=>by
 obtain ⟨s,h1,h2⟩:=EZ h;have e:=congrArg bj.name (E0 h2);have:=V.names s (List.mem_of_getElem? h1);simp only at e;rw [← e] at this;exact absurd this (by decide)
theorem Vn (z:aG) (q:bj) (hf:z.Fits) (hn:q.name.length≤maxLen):aq E 88 [z.enc,q.enc] (· = .aD [Fa (fJ z q),.int .i64 (kj z q)]):=by
 have c1:=U6 z q.name hf hn;unfold E9 at c1;by_cases hq:gr q=false∨dE z=false
 ·have h1:kj z q=1:=by
   rw [kj];rcases hq with h | h <;> simp [h]
  rw [fJ,h1,if_neg (by decide)];refine eP Tryz.func88 ?_;by_cases t1:q.type<1
  ·refine bh (decide_eq_true t1) ?_;refine gO Tryz.func88 ?_;refine aV ?_;refine gO Tryz.func88 ?_;rfl
  refine aZ (decide_eq_false t1) ?_;refine gO Tryz.func88 ?_;by_cases t2:8<q.type
  ·refine bh (decide_eq_true t2) ?_;refine gO Tryz.func88 ?_;rfl
  refine aZ (decide_eq_false t2) ?_;refine gO Tryz.func88 ?_;have e:(Nm.valid q.name&&dE z)=false:=by
   rcases hq with h | h
   ·have g1:1≤q.type:=by omega
    have g2:q.type≤8:=by omega
    simp [gr,g1,g2] at h;simp [h]
   ·simp [h]
  rw [e] at c1;refine ao (c1) ?_;refine gO Tryz.func88 ?_;refine aQ ?_;refine gO Tryz.func88 ?_;refine aV ?_;refine gO Tryz.func88 ?_;rfl
 have h2:dE z=true:=by simpa using fun h=>hq (.inr h)
 have h3:gr q=true:=by simpa using fun h=>hq (.inl h)
 have hN:kj z q=0:=by simp [kj,h2,h3]
 have V:=KS h2;have hS:=Ei h2;simp only [gr,Bool.and_eq_true,decide_eq_true_eq] at h3;obtain ⟨h3,h4,h5⟩:=h3;rw [fJ,hN,if_pos rfl];rw [h2,h3] at c1;cases hu:Nm.under q.name z.ah
 ·rw [hu] at c1;have e:nI z q=⟨7,[],[]⟩:=by rw [nI,hu]; rfl
  rw [e];refine eP Tryz.func88 ?_;refine aZ (decide_eq_false (by omega)) ?_;refine gO Tryz.func88 ?_;refine aZ (decide_eq_false (by omega)) ?_;refine gO Tryz.func88 ?_;refine ao (c1) ?_;refine gO Tryz.func88 ?_;refine aV ?_;refine gO Tryz.func88 ?_;rfl
 rw [hu] at c1;obtain ⟨cut,b,k1,k2,k3⟩:∃ cut b,(b=true→lZ z q.name=some cut)∧(b=false→lZ z q.name=none)∧aq E 155 [z.enc,.str q.name] (· = .aD [.str cut,.bool b,.int .i64 0]):=by
  cases e:lZ z q.name with
  |none=>rw [e] at c1; exact ⟨[],false,by simp,by simp,c1⟩
  |some c=>rw [e] at c1; exact ⟨c,true,by simp,by simp,c1⟩
 clear c1;have hv:=Uy z q (by have:=V.len; omega);refine eP Tryz.func88 ?_;refine aZ (decide_eq_false (by omega)) ?_;refine gO Tryz.func88 ?_;refine aZ (decide_eq_false (by omega)) ?_;refine gO Tryz.func88 ?_;refine ao (k3) ?_;refine gO Tryz.func88 ?_;refine aQ ?_;refine gO Tryz.func88 ?_;refine aQ ?_;refine gO Tryz.func88 ?_;refine wM (hv) rfl ?_;refine gO Tryz.func88 ?_;refine I.TM af rfl rfl rfl rfl rfl rfl rfl rfl rfl ?_;refine gO Tryz.func88 ?_;refine I.TN af rfl rfl rfl rfl rfl rfl (aP rfl) rfl ?_;refine gO Tryz.func88 ?_;refine I.mw ?_;refine I.run af Tryz.func88 2000 ?_;(conv=>whnf);refine bh (by decide) ?_;refine gO Tryz.func88 ?_;refine I.oE af (n:=0) rfl rfl rfl rfl rfl rfl (aP rfl) (aP rfl) rfl (by decide) ?_;refine gO Tryz.func88 ?_;cases hs:mP q cut b
 ·obtain rfl:b=true:=by
   cases b
   ·simp [mP] at hs
   ·rfl
  obtain ⟨v1,v2⟩:=Vj V (k1 rfl);have r0:=Vg z q cut [] V hS v1 v2 hs;unfold bw bg at r0;rw [Vi hu (k1 rfl) hs]
  with_reducible refine bD (r0) ?_
  refine gO Tryz.func88 ?_;refine aV ?_;refine gO Tryz.func88 ?_;rfl
 have r0:=Vf z q cut b [] hs;unfold bw bg at r0;rw [Vh hu k1 k2 hs];clear k1 k2 k3 hs
 with_reducible refine bD (r0) ?_
 refine gO Tryz.func88 ?_;refine aQ ?_;refine gO Tryz.func88 ?_;refine I.again ?_;refine I.run af Tryz.func88 2000 ?_;(conv=>whnf);refine bh (by decide) ?_;refine gO Tryz.func88 ?_;refine I.oE af (n:=1) rfl rfl rfl rfl rfl rfl (aP rfl) (aP rfl) rfl (by decide) ?_;refine gO Tryz.func88 ?_;have r1:=UM z q cut b [] V hS;unfold bw bg at r1
 with_reducible refine bD (r1) ?_
 refine gO Tryz.func88 ?_;by_cases d1:0≤aU z.ab q
 ·refine bh (by simpa using d1) ?_;refine gO Tryz.func88 ?_;rw [kX,if_pos d1,Lh d1];rfl
 refine aZ (by simpa using d1) ?_;refine gO Tryz.func88 ?_;refine I.again ?_;refine I.run af Tryz.func88 2000 ?_;(conv=>whnf);refine bh (by decide) ?_;refine gO Tryz.func88 ?_;refine I.oE af (n:=2) rfl rfl rfl rfl rfl rfl (aP rfl) (aP rfl) rfl (by decide) ?_;refine gO Tryz.func88 ?_;have r2:=UN z q cut b [] V hS;unfold bw bg at r2
 with_reducible refine bD (r2) ?_
 refine gO Tryz.func88 ?_;by_cases d2:0≤aU z.ab ⟨q.name,3⟩∧q.type≠8
 ·refine bh (by simpa using d2) ?_;refine gO Tryz.func88 ?_;rw [kX,if_neg d1,if_pos d2,Lh d2.1];rfl
 refine aZ (by simpa using d2) ?_;refine gO Tryz.func88 ?_;refine I.again ?_;refine I.run af Tryz.func88 2000 ?_;(conv=>whnf);refine bh (by decide) ?_;refine gO Tryz.func88 ?_;refine I.oE af (n:=3) rfl rfl rfl rfl rfl rfl (aP rfl) (aP rfl) rfl (by decide) ?_;refine gO Tryz.func88 ?_;cases he:jm z.ab q.name
 case true =>
  have r3:=Vb z q cut b [] V hS h3 he;unfold bw bg at r3
  with_reducible refine bD (r3) ?_
  refine gO Tryz.func88 ?_;refine aV ?_;refine gO Tryz.func88 ?_;rw [kX,if_neg d1,if_neg d2,if_pos he];rfl
 have r3:=Vc z q cut b [] V h3 hu he;unfold bw bg at r3;rw [kX,if_neg d1,if_neg d2,he,if_neg (by decide)];clear d1 d2 he r0 r1 r2;cases hw:rh z.ab q.name with
 |none =>
  rw [hw] at r3;simp only [Option.getD_none] at r3;have r4:=K0 z q cut b [] V hS h3;have r5:=K3 z q cut b [] V hS h3;have r6:=Lf z q cut b [] V (.inl rfl);have r7:=K4 z q cut b [] V hS h3 (.inl rfl);rw [if_pos rfl,Vm] at r7;unfold bw bg at r4 r5 r6 r7
  with_reducible refine bD (r3) ?_
  refine gO Tryz.func88 ?_;refine aQ ?_;refine gO Tryz.func88 ?_;refine I.again ?_;refine I.run af Tryz.func88 2000 ?_;(conv=>whnf);refine bh (by decide) ?_;refine gO Tryz.func88 ?_;refine I.oE af (n:=4) rfl rfl rfl rfl rfl rfl (aP rfl) (aP rfl) rfl (by decide) ?_;refine gO Tryz.func88 ?_
  with_reducible refine bD (r4) ?_
  refine gO Tryz.func88 ?_;refine aZ (by simpa using Li V q.type) ?_;refine gO Tryz.func88 ?_;refine I.again ?_;refine I.run af Tryz.func88 2000 ?_;(conv=>whnf);refine bh (by decide) ?_;refine gO Tryz.func88 ?_;refine I.oE af (n:=5) rfl rfl rfl rfl rfl rfl (aP rfl) (aP rfl) rfl (by decide) ?_;refine gO Tryz.func88 ?_
  with_reducible refine bD (r5) ?_
  refine gO Tryz.func88 ?_;refine aZ (by have:=Li V 3; simp; omega) ?_;refine gO Tryz.func88 ?_;refine I.again ?_;refine I.run af Tryz.func88 2000 ?_;(conv=>whnf);refine bh (by decide) ?_;refine gO Tryz.func88 ?_;refine I.oE af (n:=6) rfl rfl rfl rfl rfl rfl (aP rfl) (aP rfl) rfl (by decide) ?_;refine gO Tryz.func88 ?_
  with_reducible refine bD (r6) ?_
  refine gO Tryz.func88 ?_;refine aQ ?_;refine gO Tryz.func88 ?_;refine I.again ?_;refine I.run af Tryz.func88 2000 ?_;(conv=>whnf);refine aZ (by decide) ?_;refine gO Tryz.func88 ?_
  with_reducible refine bD (r7) ?_
  refine gO Tryz.func88 ?_;rfl
 |some w =>
  rw [hw] at r3;simp only [Option.getD_some] at r3;have pR:=Vl hw;have Vo:w≠[]:=fun e=>by rw [e] at pR; exact absurd pR (by decide)
  have r4:=K0 z q cut b w V hS h3;have r5:=K3 z q cut b w V hS h3;have r7:=K4 z q cut b w V hS h3 (.inr pR);rw [if_neg Vo] at r7;unfold bw bg at r4 r5 r7
  with_reducible refine bD (r3) ?_
  refine gO Tryz.func88 ?_;refine aQ ?_;refine gO Tryz.func88 ?_;refine I.again ?_;refine I.run af Tryz.func88 2000 ?_;(conv=>whnf);refine bh (by decide) ?_;refine gO Tryz.func88 ?_;refine I.oE af (n:=4) rfl rfl rfl rfl rfl rfl (aP rfl) (aP rfl) rfl (by decide) ?_;refine gO Tryz.func88 ?_
  with_reducible refine bD (r4) ?_
  refine gO Tryz.func88 ?_;by_cases d4:0≤aU z.ab ⟨w,q.type⟩
  ·refine bh (by simpa using d4) ?_;refine gO Tryz.func88 ?_;simp only [if_pos d4];rfl
  refine aZ (by simpa using d4) ?_;refine gO Tryz.func88 ?_;refine I.again ?_;refine I.run af Tryz.func88 2000 ?_;(conv=>whnf);refine bh (by decide) ?_;refine gO Tryz.func88 ?_;refine I.oE af (n:=5) rfl rfl rfl rfl rfl rfl (aP rfl) (aP rfl) rfl (by decide) ?_;refine gO Tryz.func88 ?_
  with_reducible refine bD (r5) ?_
  refine gO Tryz.func88 ?_;by_cases d5:0≤aU z.ab ⟨w,3⟩∧q.type≠8
  ·refine bh (by simpa using d5) ?_;refine gO Tryz.func88 ?_;simp only [if_neg d4,if_pos d5];rfl
  refine aZ (by simpa using d5) ?_;refine gO Tryz.func88 ?_;refine I.again ?_;refine I.run af Tryz.func88 2000 ?_;(conv=>whnf);refine bh (by decide) ?_;refine gO Tryz.func88 ?_;refine I.oE af (n:=6) rfl rfl rfl rfl rfl rfl (aP rfl) (aP rfl) rfl (by decide) ?_;refine gO Tryz.func88 ?_;cases he:jm z.ab w
  case true =>
   have r6:=Vd z q cut b w V hS h3 pR he;unfold bw bg at r6
   with_reducible refine bD (r6) ?_
   refine gO Tryz.func88 ?_;refine aV ?_;refine gO Tryz.func88 ?_;simp only [if_neg d4,if_neg d5,if_pos he];rfl
  have r6:=Lf z q cut b w V (.inr ⟨pR,he⟩);unfold bw bg at r6
  with_reducible refine bD (r6) ?_
  refine gO Tryz.func88 ?_;refine aQ ?_;refine gO Tryz.func88 ?_;refine I.again ?_;refine I.run af Tryz.func88 2000 ?_;(conv=>whnf);refine aZ (by decide) ?_;refine gO Tryz.func88 ?_
  with_reducible refine bD (r7) ?_
  refine gO Tryz.func88 ?_;simp only [if_neg d4,if_neg d5,he];rfl
end Go.Proofs.YtfmdaiojokniiaaGreatDoor.P
end
section
namespace Go.Proofs.YtfmdaiojokniiaaGreatDoor.P
open Go Go.aw
set_option maxRecDepth 100000
set_option maxHeartbeats 4000000
end Go.Proofs.YtfmdaiojokniiaaGreatDoor.P
end
section
namespace Go.Proofs.YtfmdaiojokniiaaGreatDoor.P
open Go Go.aw
set_option maxRecDepth 100000
set_option maxHeartbeats 4000000
end Go.Proofs.YtfmdaiojokniiaaGreatDoor.P
end
section
namespace Go.Proofs.YtfmdaiojokniiaaGreatDoor.P
open Go Go.aw
set_option maxRecDepth 100000
set_option maxHeartbeats 4000000
end Go.Proofs.YtfmdaiojokniiaaGreatDoor.P
end
