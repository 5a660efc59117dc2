/- Several texts of mine, one behind the other. Conditions: as each says. -/
import Derived.Test.YtfmdaiojokniiaaGreatDoorW19
import Derived.Test.YtfmdaiojokniiaaGreatDoorW27
import Derived.Test.YtfmdaiojokniiaaGreatDoorW36
set_option linter.unusedVariables false
set_option linter.unusedSimpArgs false
namespace Go.Proofs.YtfmdaiojokniiaaGreatDoor.P
open Go Go.aw
set_option maxRecDepth 100000
set_option maxHeartbeats 4000000
theorem SK (a b:br):dR a.enc b.enc=decide (a=b):=by
 obtain ⟨an,at_⟩:=a;obtain ⟨bn,bt⟩:=b;show dR (DV.agg [.str an,.int .i64 at_]) (DV.agg [.str bn,.int .i64 bt])=_;rw [Bool.eq_iff_iff];simp [dR,qQ,ob];exact fun _ _=>by decide
def vm (l:List Signed):List (DV × DV):=l.zipIdx.foldl (fun es p=>bI (br.enc ⟨p.1.set.name,p.1.set.type⟩) (.int .i64 p.2) es) []
theorem SL (l:List Signed) (x:Signed):vm (l++[x])=bI (br.enc ⟨x.set.name,x.set.type⟩) (.int .i64 l.length) (vm l):=by
 rw [vm,List.zipIdx_append,List.foldl_append];simp [vm]
theorem JF {l:List Signed} {k:Nat} {x:Signed} (h:l[k]? = some x):vm (l.take (k+1))=bI (br.enc ⟨x.set.name,x.set.type⟩) (.int .i64 k) (vm (l.take k)):=by
 have hk:k<l.length:=(List.getElem?_eq_some_iff.1 h).1;rw [dm h,SL,List.length_take,Nat.min_eq_left (by omega)]
theorem JG (l:List Signed):kR br.enc (vm l):=by
 have main:∀ (l:List (Signed × Nat)) (es:List (DV × DV)),kR br.enc es→kR br.enc (l.foldl (fun es p=>bI (br.enc ⟨p.1.set.name,p.1.set.type⟩) (.int .i64 p.2) es) es):=by
  intro l
  induction l with
  |nil=>intro es h; exact h
  |cons p l ih=>intro es h; exact ih _ (Dk h)
 exact main _ _ fun p hp=>by simp at hp
theorem SM {q:br} {x:Signed} (h:q≠⟨x.set.name,x.set.type⟩):cP q x=false:=by
 cases e:cP q x
 ·rfl
 ·exact absurd (DU e) h
theorem SN {l:List Signed} {q:br} {x:Signed} (h:q≠⟨x.set.name,x.set.type⟩):aO (l++[x]) q=aO l q:=by
 unfold aO;rw [List.findIdx?_append];cases e:l.findIdx? (cP q) with
 |some k=>simp
 |none=>simp [List.findIdx?_cons,SM h]
theorem JI {q:br} {l:List Signed} (hs:eW l):∀ (k:Nat),k≤l.length→findD q.enc (vm (l.take k))=if 0≤aO (l.take k) q then some (.int .i64 (aO (l.take k) q)) else none
 | 0,_=>by simp [vm,findD,aO]
 |k+1,hk=>by
  obtain ⟨x,hx⟩:=aU (l:=l) (k:=k) (by omega);have ih:=JI (q:=q) hs k (by omega);have SO:eW (l.take (k+1)):=fun i j a b dp ha hb=>by
   rw [List.getElem?_take] at ha hb;split at ha
   case isFalse=>cases ha
   split at hb
   case isFalse=>cases hb
   exact hs i j a b dp ha hb
  rw [JF hx,Dl SK (JG _)];by_cases e:q=⟨x.set.name,x.set.type⟩
  ·subst e;have:=SA SO (k:=k) (x:=x) (by rw [List.getElem?_take,if_pos (by omega)]; exact hx);rw [if_pos rfl,this,if_pos (by omega)]
  ·rw [if_neg e,dm hx,SN e];exact ih
theorem SP {q:br} {l:List Signed} (hs:eW l):findD q.enc (vm l)=if 0≤aO l q then some (.int .i64 (aO l q)) else none:=by
 have:=JI (q:=q) hs l.length (Nat.le_refl _)
 rwa [List.take_length] at this
theorem DY (q:br):cS E.T (.struct [(0,9),(1,3)]) q.enc:=⟨_,rfl,rfl,⟨_,rfl,_,rfl⟩,rfl,⟨_,rfl,_,rfl⟩,trivial⟩
theorem JJ (l:List Signed):∀ p∈vm l,cS E.T (.struct [(0,9),(1,3)]) p.1:=fun p hp=>by
 obtain ⟨a,ha⟩:=JG l p hp;rw [ha];exact DY a
def bo (z:aF) (q:br) (cut:Text) (b:Bool) (w:Text):ab := .cells [.d (.str z.ai),.d (.sl (z.ae.map Signed.enc)),.map 1,.d (.str q.name),.d (.int .i64 q.type),.d (.str cut),.d (.bool b),.d (.str w)]
def aZ (z:aF):ab := .map (vm z.ae)
theorem JK (a b:Text) (ha:Nm.valid a=true) (hb:Nm.valid b=true):au E 294 [.str a,.str b] (· = .int .i64 (bO a b)):=by
 refine eP Tryz.func294 ?_;refine ar (C1 a b ha hb) ?_;refine gO Tryz.func294 ?_
 with_reducible rfl
theorem sd (a b:Text) (ha:Nm.valid a=true) (hb:Nm.valid b=true):au E 237 [.str a,.str b] (· = .bool (Nm.under a b)):=by
 have c1:=tO a b (by have:=fD ha; exact l7 (by omega)) (by have:=fD hb; exact l7 (by omega));refine eP Tryz.func237 ?_;refine ar (c1) ?_;refine gO Tryz.func237 ?_;rw [zi ha hb]
theorem SQ (z:aF) (q:br) (hl:z.ae.length≤1000000):aq E 156 [] [.d z.enc,.d q.enc] (fun a b=>a = .ptr 3 0∧b=[.cells [.d (.str z.ai),.d (.sl (z.ae.map Signed.enc))],.cells [.d (.str q.name),.d (.int .i64 q.type)],.map (vm z.ae),.cells [.d (.str z.ai),.d (.sl (z.ae.map Signed.enc)),.map 2,.d (.str q.name),.d (.int .i64 q.type),.d (.str []),.d (.bool false),.d (.str [])]]):=by
 obtain ⟨ai,l⟩:=z;obtain ⟨qn,qt⟩:=q;show aq E _ [] [.d (DV.agg [.str ai,.sl (l.map Signed.enc)]),.d (DV.agg [.str qn,.int .i64 qt])] _;refine aq.run ag (fn:=Tryz.f156) Tryz.func156 (body:=Tryz.f156.body.getD .skip) rfl (by decide) 2000 rfl ?_;(conv=>whnf);refine I.bU ag bV 2000 (by kernel_rfl) ?_;(conv=>whnf);refine bF.at rfl ?_;(conv=>whnf);refine jx.op (SJ (kt:=36) (et:=3) (by kernel_rfl) (aM rfl)) ?_;refine gD ?_;refine And.intro (by kernel_rfl) ?_;(conv=>whnf);refine gO Tryz.func156 ?_;refine I.loop (κ:=Nat) ([6,7]++rg 22 18) (fun k=>[(22,.d (.int .i64 k))]) (fun k=>[(2,.map (vm (l.take k)))]) (fun k=>k≤l.length) (fun k=>l.length - k) 0 (Nat.zero_le _) ?_ ?_
 ·(conv=>whnf);repeat (first | exact trivial | (refine sI ?_; conv=>whnf))
  refine And.intro rfl ?_;exact sZ
 intro k hk IH;refine I.head ag Tryz.func156 2000 ?_;(conv=>whnf);refine aj (fun h5=>?_) (fun h5=>?_)
 ·have ah:k<l.length:=by simpa using h5
  obtain ⟨x,hx⟩:=aU ah;have dJ:=JF hx;simp only at hl;refine gO Tryz.func156 ?_;refine aT (e:=x.enc) (bu hx) rfl ?_;refine gO Tryz.func156 ?_;refine I.bU ag bV 2000 (by kernel_rfl) ?_;(conv=>whnf);refine bp ⟨DY ⟨x.set.name,x.set.type⟩,JJ _⟩ ?_;refine gD ?_;refine And.intro (by kernel_rfl) ?_;(conv=>whnf);refine gO Tryz.func156 ?_;refine I.back (IH (k+1) (by omega) (by omega)) ?_;rw [dJ];exact sZ
 ·have aK:l.length≤k:=by simpa using h5
  rw [List.take_of_length_le aK];refine gO Tryz.func156 ?_;exact ⟨rfl,rfl⟩
theorem oX (z:aF) (q:br) (cut:Text) (b:Bool) (w:Text) (n:Text) (t:Int) (hs:eW z.ae):aq E 236 [bo z q cut b w,aZ z] [.ptr 0 0,.d (.str n),.d (.int .i64 t)] (fun x h=>x = .d (.int .i64 (aO z.ae ⟨n,t⟩))∧h=[bo z q cut b w,aZ z]):=by
 have hf:=SP (q:=⟨n,t⟩) hs;have aK : -1≤aO z.ae ⟨n,t⟩:=fJ.1;unfold bo aZ;refine aq.run ag (fn:=Tryz.f236) Tryz.func236 (body:=Tryz.f236.body.getD .skip) rfl (by decide) 2000 rfl ?_;(conv=>whnf);have fV:=JJ z.ae;have JL:=DY ⟨n,t⟩;by_cases h0:0≤aO z.ae ⟨n,t⟩
 ·rw [if_pos h0] at hf;refine mX (.int .i64 0) (.int .i64 0) (v := .int .i64 (aO z.ae ⟨n,t⟩)) (f:=true) JL fV (fun w=>by kernel_rfl) (fun _ _ => .int _ _) (by rw [hf]; rfl) (by rw [hf]; rfl) ?_;refine gO Tryz.func236 ?_;refine aY ?_;refine gO Tryz.func236 ?_;exact ⟨rfl,rfl⟩
 ·rw [if_neg h0] at hf;refine mX (.int .i64 0) (.int .i64 0) (v := .int .i64 0) (f:=false) JL fV (fun w=>by kernel_rfl) (fun _ _ => .int _ _) (by rw [hf]; rfl) (by rw [hf]; rfl) ?_;refine gO Tryz.func236 ?_;refine aN ?_;refine gO Tryz.func236 ?_;exact ⟨by rw [show aO z.ae ⟨n,t⟩ = -1 by omega],rfl⟩
theorem DZ (z:aF) (q:br) (cut:Text) (b:Bool) (w:Text) (hs:eW z.ae):aq E 240 [bo z q cut b w,aZ z] [.ptr 0 0] (fun x h=>x = .d (.int .i64 (aO z.ae ⟨z.ai,4⟩))∧h=[bo z q cut b w,aZ z]):=by
 have c1:=fun n t=>oX z q cut b w n t hs;unfold bo aZ at c1;unfold bo aZ;refine aq.run ag (fn:=Tryz.f240) Tryz.func240 (body:=Tryz.f240.body.getD .skip) rfl (by decide) 2000 rfl ?_;conv=>whnf
 with_reducible refine bC (c1 z.ai 4) ?_
 refine gO Tryz.func240 ?_;exact ⟨rfl,rfl⟩
theorem SR (l:List Int) (v:Int) (hl:l.length≤1000000):au E 336 [.sl (l.map (.int .i64)),.int .i64 v] (fun r=>∃ n:Int,r = .int .i64 n∧(0≤n↔v∈l)):=by
 refine eP Tryz.func336 ?_;refine I.loop (κ:=Nat) ([4,5]++rg 8 11) (fun k=>[(8,.d (.int .i64 k))]) (fun _=>[]) (fun k=>k≤l.length∧∀ j x,j<k→l[j]? = some x→v≠x) (fun k=>l.length - k) 0 ⟨Nat.zero_le _,fun j x h=>by omega⟩ ?_ ?_
 ·exact sZ
 rintro k ⟨hk,a7⟩ IH;refine I.head ag Tryz.func336 2000 ?_;(conv=>whnf);refine aj (fun h5=>?_) (fun h5=>?_)
 ·have ah:k<l.length:=by simpa using h5
  obtain ⟨x,hx⟩:=aU ah;refine gO Tryz.func336 ?_;refine aT (e := .int .i64 x) (bu hx) rfl ?_;refine gO Tryz.func336 ?_;by_cases e:v=x
  ·refine bg (by simpa using e) ?_;refine gO Tryz.func336 ?_;exact ⟨k,rfl,fun _=>e ▸ List.mem_of_getElem? hx,fun _=>by omega⟩
  ·refine aW (by simpa using e) ?_;refine gO Tryz.func336 ?_;refine I.back (IH (k+1) ⟨by omega,fun j y hj hy=>?_⟩ (by omega)) ?_
   ·rcases Nat.lt_or_eq_of_le (Nat.le_of_lt_succ hj) with h | h
    ·exact a7 j y h hy
    ·subst h; rw [hx] at hy; cases hy; exact e
   exact sZ
 ·have aK:k=l.length:=by simp at h5; omega
  subst aK;refine gO Tryz.func336 ?_;refine ⟨-1,rfl,fun h=>absurd h (by decide),fun h=>?_⟩;obtain ⟨j,hj⟩:=List.getElem?_of_mem h;exact absurd rfl (a7 j v (List.getElem?_eq_some_iff.1 hj).1 hj)
theorem SS (l:List Int) (v:Int) (hl:l.length≤1000000):au E 291 [.sl (l.map (.int .i64)),.int .i64 v] (· = .bool (decide (v∈l))):=by
 refine eP Tryz.func291 ?_
 with_reducible refine vG (SR l v hl) ?_
 rintro r ⟨n,rfl,hn⟩;refine gO Tryz.func291 ?_;rw [show decide (n≥0)=decide (v∈l) by rw [Bool.eq_iff_iff,decide_eq_true_eq,decide_eq_true_eq]; exact hn]
theorem SU (z:aF) (q:br) (cut:Text) (b:Bool) (w n:Text) (hv:∀ s∈z.ae,Nm.valid s.set.name=true) (hn:Nm.valid n=true) {i:Nat} {s:Signed} (hi:z.ae[i]? = some s):aq E 293 [.cells [.ptr 2 0],.cells [.d (.str n)],.cells [.d (.str z.ai),.d (.sl (z.ae.map Signed.enc)),.map 3,.d (.str q.name),.d (.int .i64 q.type),.d (.str cut),.d (.bool b),.d (.str w)],aZ z] [.d (.int .i64 i),.ptr 0 0,.ptr 1 0] (fun x h=>x = .d (.bool (!gM n s))∧h=[.cells [.ptr 2 0],.cells [.d (.str n)],.cells [.d (.str z.ai),.d (.sl (z.ae.map Signed.enc)),.map 3,.d (.str q.name),.d (.int .i64 q.type),.d (.str cut),.d (.bool b),.d (.str w)],aZ z]):=by
 have c1:=JK s.set.name n (hv s (List.mem_of_getElem? hi)) hn;unfold aZ;refine aq.run ag (fn:=Tryz.f293) Tryz.func293 (body:=Tryz.f293.body.getD .skip) rfl (by decide) 2000 rfl ?_;(conv=>whnf);refine I.bU ag bV 2000 (by kernel_rfl) ?_;(conv=>whnf);refine aT (e:=s.enc) (bu hi) rfl ?_;refine gD ?_;refine aR (c1) ?_;refine gD ?_;refine gO Tryz.func293 ?_;refine ⟨?_,rfl⟩;refine congrArg (fun b=>AV.d (DV.bool b)) ?_;unfold gM;rw [Bool.eq_iff_iff];simp
theorem SV (z:aF) (q:br) (cut:Text) (b:Bool) (w n:Text) (hs:eW z.ae) (hl:z.ae.length≤1000000) (hv:∀ s∈z.ae,Nm.valid s.set.name=true) (hn:Nm.valid n=true):aq E 292 [.cells [.ptr 2 0],.cells [.d (.str n)],.cells [.d (.str z.ai),.d (.sl (z.ae.map Signed.enc)),.map 3,.d (.str q.name),.d (.int .i64 q.type),.d (.str cut),.d (.bool b),.d (.str w)],aZ z] [.d (.int .i64 z.ae.length),.fn (.func 293) [] [.ptr 0 0,.ptr 1 0]] (fun x h=>x = .d (.int .i64 (fS (gM n) z.ae))∧h=[.cells [.ptr 2 0],.cells [.d (.str n)],.cells [.d (.str z.ai),.d (.sl (z.ae.map Signed.enc)),.map 3,.d (.str q.name),.d (.int .i64 q.type),.d (.str cut),.d (.bool b),.d (.str w)],aZ z]):=by
 have c1:=fun i s hi=>SU z q cut b w n hv hn (i:=i) (s:=s) hi;have hc:∀ i s,z.ae[i]? = some s→(gM n s=true↔i<fS (gM n) z.ae):=fun i s hi=>by rw [← lt_iff hs hi]; simp [gM]
 have dS:=xn (P:=gM n) (l:=z.ae);generalize fS (gM n) z.ae=m at *;unfold aZ at *;refine aq.run ag (fn:=Tryz.f292) Tryz.func292 (body:=Tryz.f292.body.getD .skip) rfl (by decide) 2000 rfl ?_;(conv=>whnf);refine I.loop (κ:=Nat × Nat) [5,6,7,9,10,11,12,13,14,15,16,17,18,19,20,21,22,23,24] (fun k=>[(5,.d (.int .i64 k.1)),(6,.d (.int .i64 k.2))]) (fun _=>[]) (fun k=>k.1≤m∧m≤k.2∧k.2≤z.ae.length) (fun k=>k.2 - k.1) (0,z.ae.length) ⟨Nat.zero_le _,dS,Nat.le_refl _⟩ ?_ ?_
 ·exact sZ
 rintro ⟨i,j⟩ ⟨k1,k2,k3⟩ IH;simp only at k1 k2 k3;refine I.head ag Tryz.func292 2000 ?_;(conv=>whnf);refine aj (fun h5=>?_) (fun h5=>?_)
 ·have ah:i<j:=by simpa using h5
  obtain ⟨x,hx⟩:=aU (l:=z.ae) (k:=(i+j) / 2) (by omega);have wP:=Jz (i:=i) (j:=j) (by omega);have xq:=hc _ x hx;refine gO Tryz.func292 ?_;refine bp (by decide) ?_;refine gO Tryz.func292 ?_;rw [show IntKind.i64.wrap (oa .shr .u64 (IntKind.u64.wrap (IntKind.i64.wrap (((i,j).fst:Int)+((i,j).snd:Int)))) (Int.toNat 1))=(((i+j) / 2:Nat):Int) from wP]
  with_reducible refine bC (c1 _ x hx) ?_
  refine gO Tryz.func292 ?_;cases h6:gM n x
  ·have:¬ (i+j) / 2<m:=fun e=>by rw [xq.2 e] at h6; cases h6
   refine aW (by decide) ?_;refine gO Tryz.func292 ?_;refine I.back (IH (i,(i+j) / 2) ⟨k1,by simp only; omega,by simp only; omega⟩ (by simp only; omega)) ?_;exact sZ
  ·have:=xq.1 h6;refine bg (by decide) ?_;refine gO Tryz.func292 ?_;refine I.back (IH ((i+j) / 2+1,j) ⟨by simp only; omega,k2,k3⟩ (by simp only; omega)) ?_;exact sZ
 ·have aK:i=m:=by simp at h5; omega
  subst aK;refine gO Tryz.func292 ?_;exact ⟨rfl,rfl⟩
theorem SX (z:aF) (q:br) (cut:Text) (b:Bool) (w n:Text) (hs:eW z.ae) (hl:z.ae.length≤1000000) (hv:∀ s∈z.ae,Nm.valid s.set.name=true) (hn:Nm.valid n=true):aq E 239 [bo z q cut b w,aZ z] [.ptr 0 0,.d (.str n)] (fun x h=>x = .d (.bool (iM z.ae n))∧h=[bo z q cut b w,aZ z,.cells [.ptr 0 0],.cells [.d (.str n)]]):=by
 have c1:=SV z q cut b w n hs hl hv hn;have hex:=SH hs (n:=n);have dS:=xn (P:=gM n) (l:=z.ae);rw [hex];generalize fS (gM n) z.ae=m at *;clear hex;unfold aZ at c1;unfold bo aZ;refine aq.run ag (fn:=Tryz.f239) Tryz.func239 (body:=Tryz.f239.body.getD .skip) rfl (by decide) 2000 rfl ?_;(conv=>whnf);rw [show ((z.ae.map Signed.enc).length:Int)=(z.ae.length:Int) by simp]
 with_reducible refine bC (c1) ?_
 refine gO Tryz.func239 ?_;rcases Nat.lt_or_ge m z.ae.length with h1 | h1
 ·obtain ⟨x,hx⟩:=aU h1;have c2:=sd x.set.name n (hv x (List.mem_of_getElem? hx)) hn;rw [hx];refine I.bU ag bV 2000 (by kernel_rfl) ?_;(conv=>whnf);refine bg (decide_eq_true (by simp; omega)) ?_;refine gD ?_;refine aT (e:=x.enc) (bu hx) rfl ?_;refine gD ?_;refine aR (c2) ?_;refine gD ?_;refine gO Tryz.func239 ?_;exact ⟨rfl,rfl⟩
 ·rw [List.getElem?_eq_none h1];refine I.bU ag bV 2000 (by kernel_rfl) ?_;(conv=>whnf);refine aW (decide_eq_false (by simp; omega)) ?_;refine gD ?_;refine gO Tryz.func239 ?_;exact ⟨rfl,rfl⟩
end Go.Proofs.YtfmdaiojokniiaaGreatDoor.P
