/- Several texts of mine, one behind the other. Conditions: as each says. -/
import Derived.Test.YtfmdaiojokniiaaGreatDoorV20
import Derived.Test.YtfmdaiojokniiaaGreatDoorV35
set_option linter.unusedVariables false
set_option linter.unusedSimpArgs false
namespace Go.Proofs.YtfmdaiojokniiaaGreatDoor.P
open Go Go.aw
set_option maxRecDepth 100000
set_option maxHeartbeats 4000000
theorem Us (a b:bj):dY a.enc b.enc=decide (a=b):=by
 obtain ⟨an,at_⟩:=a;obtain ⟨bn,bt⟩:=b;show dY (DV.agg [.str an,.int .i64 at_]) (DV.agg [.str bn,.int .i64 bt])=_;rw [Bool.eq_iff_iff];simp [dY,rT,oX];exact fun _ _=>by decide
def vm (l:List Signed):List (DV × DV):=l.zipIdx.foldl (fun es p=>bO (bj.enc ⟨p.1.set.name,p.1.set.type⟩) (.int .i64 p.2) es) []
theorem Ut (l:List Signed) (x:Signed):vm (l++[x])=bO (bj.enc ⟨x.set.name,x.set.type⟩) (.int .i64 l.length) (vm l):=by
 rw [vm,List.zipIdx_append,List.foldl_append];simp [vm]
theorem KU {l:List Signed} {k:Nat} {x:Signed} (h:l[k]? = some x):vm (l.take (k+1))=bO (bj.enc ⟨x.set.name,x.set.type⟩) (.int .i64 k) (vm (l.take k)):=by
 have hk:k<l.length:=(List.getElem?_eq_some_iff.1 h).1;rw [cI h,Ut,List.length_take,Nat.min_eq_left (by omega)]
theorem KV (l:List Signed):lR bj.enc (vm l):=by
 have main:∀ (l:List (Signed × Nat)) (es:List (DV × DV)),lR bj.enc es→lR bj.enc (l.foldl (fun es p=>bO (bj.enc ⟨p.1.set.name,p.1.set.type⟩) (.int .i64 p.2) es) es):=by
  intro l
  induction l with
  |nil=>intro es h; exact h
  |cons p l ih=>intro es h; exact ih _ (El h)
 exact main _ _ fun p hp=>by simp at hp
theorem Uu {q:bj} {x:Signed} (h:q≠⟨x.set.name,x.set.type⟩):cE q x=false:=by
 cases e:cE q x
 ·rfl
 ·exact absurd (E0 e) h
theorem Uv {l:List Signed} {q:bj} {x:Signed} (h:q≠⟨x.set.name,x.set.type⟩):aU (l++[x]) q=aU l q:=by
 unfold aU;rw [List.findIdx?_append];cases e:l.findIdx? (cE q) with
 |some k=>simp
 |none=>simp [List.findIdx?_cons,Uu h]
theorem KW {q:bj} {l:List Signed} (hs:fp l):∀ (k:Nat),k≤l.length→findD q.enc (vm (l.take k))=if 0≤aU (l.take k) q then some (.int .i64 (aU (l.take k) q)) else none
 | 0,_=>by simp [vm,findD,aU]
 |k+1,hk=>by
  obtain ⟨x,hx⟩:=aL (l:=l) (k:=k) (by omega);have ih:=KW (q:=q) hs k (by omega);have Uw:fp (l.take (k+1)):=fun i j a b dj ha hb=>by
   rw [List.getElem?_take] at ha hb;split at ha
   case isFalse=>cases ha
   split at hb
   case isFalse=>cases hb
   exact hs i j a b dj ha hb
  rw [KU hx,Em Us (KV _)];by_cases e:q=⟨x.set.name,x.set.type⟩
  ·subst e;have:=Ui Uw (k:=k) (x:=x) (by rw [List.getElem?_take,if_pos (by omega)]; exact hx);rw [if_pos rfl,this,if_pos (by omega)]
  ·rw [if_neg e,cI hx,Uv e];exact ih
theorem Ux {q:bj} {l:List Signed} (hs:fp l):findD q.enc (vm l)=if 0≤aU l q then some (.int .i64 (aU l q)) else none:=by
 have:=KW (q:=q) hs l.length (Nat.le_refl _)
 rwa [List.take_length] at this
theorem E3 (q:bj):cW E.T (.struct [(0,9),(1,3)]) q.enc:=⟨_,rfl,rfl,⟨_,rfl,_,rfl⟩,rfl,⟨_,rfl,_,rfl⟩,trivial⟩
theorem KX (l:List Signed):∀ p∈vm l,cW E.T (.struct [(0,9),(1,3)]) p.1:=fun p hp=>by
 obtain ⟨a,ha⟩:=KV l p hp;rw [ha];exact E3 a
def bw (z:aG) (q:bj) (cut:Text) (b:Bool) (w:Text):ae := .cells [.d (.str z.ah),.d (.sl (z.ab.map Signed.enc)),.map 1,.d (.str q.name),.d (.int .i64 q.type),.d (.str cut),.d (.bool b),.d (.str w)]
def bg (z:aG):ae := .map (vm z.ab)
theorem KY (a b:Text) (ha:Nm.valid a=true) (hb:Nm.valid b=true):aq E 294 [.str a,.str b] (· = .int .i64 (bu a b)):=by
 refine eP Tryz.func294 ?_;refine ao (DY a b ha hb) ?_;refine gO Tryz.func294 ?_
 with_reducible rfl
theorem ta (a b:Text) (ha:Nm.valid a=true) (hb:Nm.valid b=true):aq E 237 [.str a,.str b] (· = .bool (Nm.under a b)):=by
 have c1:=uK a b (by have:=eJ ha; exact lp (by omega)) (by have:=eJ hb; exact lp (by omega));refine eP Tryz.func237 ?_;refine ao (c1) ?_;refine gO Tryz.func237 ?_;rw [Am ha hb]
theorem Uy (z:aG) (q:bj) (hl:z.ab.length≤1000000):au E 156 [] [.d z.enc,.d q.enc] (fun a b=>a = .ptr 3 0∧b=[.cells [.d (.str z.ah),.d (.sl (z.ab.map Signed.enc))],.cells [.d (.str q.name),.d (.int .i64 q.type)],.map (vm z.ab),.cells [.d (.str z.ah),.d (.sl (z.ab.map Signed.enc)),.map 2,.d (.str q.name),.d (.int .i64 q.type),.d (.str []),.d (.bool false),.d (.str [])]]):=by
 obtain ⟨ah,l⟩:=z;obtain ⟨qn,qt⟩:=q;show au E _ [] [.d (DV.agg [.str ah,.sl (l.map Signed.enc)]),.d (DV.agg [.str qn,.int .i64 qt])] _;refine au.run af (fn:=Tryz.f156) Tryz.func156 (body:=Tryz.f156.body.getD .skip) rfl (by decide) 2000 rfl ?_;(conv=>whnf);refine I.bH af bI 2000 (by kernel_rfl) ?_;(conv=>whnf);refine bG.at rfl ?_;(conv=>whnf);refine jX.op (Ur (kt:=36) (et:=3) (by kernel_rfl) (aP rfl)) ?_;refine gD ?_;refine And.intro (by kernel_rfl) ?_;(conv=>whnf);refine gO Tryz.func156 ?_;refine I.loop (κ:=Nat) ([6,7]++rg 22 18) (fun k=>[(22,.d (.int .i64 k))]) (fun k=>[(2,.map (vm (l.take k)))]) (fun k=>k≤l.length) (fun k=>l.length - k) 0 (Nat.zero_le _) ?_ ?_
 ·(conv=>whnf);repeat (first | exact trivial | (refine sI ?_; conv=>whnf))
  refine And.intro rfl ?_;exact sZ
 intro k hk IH;refine I.head af Tryz.func156 2000 ?_;(conv=>whnf);refine ai (fun h5=>?_) (fun h5=>?_)
 ·have aj:k<l.length:=by simpa using h5
  obtain ⟨x,hx⟩:=aL aj;have eC:=KU hx;simp only at hl;refine gO Tryz.func156 ?_;refine aE (e:=x.enc) (aX hx) rfl ?_;refine gO Tryz.func156 ?_;refine I.bH af bI 2000 (by kernel_rfl) ?_;(conv=>whnf);refine a8 ⟨E3 ⟨x.set.name,x.set.type⟩,KX _⟩ ?_;refine gD ?_;refine And.intro (by kernel_rfl) ?_;(conv=>whnf);refine gO Tryz.func156 ?_;refine I.back (IH (k+1) (by omega) (by omega)) ?_;rw [eC];exact sZ
 ·have aC:l.length≤k:=by simpa using h5
  rw [List.take_of_length_le aC];refine gO Tryz.func156 ?_;exact ⟨rfl,rfl⟩
theorem pQ (z:aG) (q:bj) (cut:Text) (b:Bool) (w:Text) (n:Text) (t:Int) (hs:fp z.ab):au E 236 [bw z q cut b w,bg z] [.ptr 0 0,.d (.str n),.d (.int .i64 t)] (fun x h=>x = .d (.int .i64 (aU z.ab ⟨n,t⟩))∧h=[bw z q cut b w,bg z]):=by
 have hf:=Ux (q:=⟨n,t⟩) hs;have aC : -1≤aU z.ab ⟨n,t⟩:=fX.1;unfold bw bg;refine au.run af (fn:=Tryz.f236) Tryz.func236 (body:=Tryz.f236.body.getD .skip) rfl (by decide) 2000 rfl ?_;(conv=>whnf);have gz:=KX z.ab;have KZ:=E3 ⟨n,t⟩;by_cases h0:0≤aU z.ab ⟨n,t⟩
 ·rw [if_pos h0] at hf;refine n0 (.int .i64 0) (.int .i64 0) (v := .int .i64 (aU z.ab ⟨n,t⟩)) (f:=true) KZ gz (fun w=>by kernel_rfl) (fun _ _ => .int _ _) (by rw [hf]; rfl) (by rw [hf]; rfl) ?_;refine gO Tryz.func236 ?_;refine aV ?_;refine gO Tryz.func236 ?_;exact ⟨rfl,rfl⟩
 ·rw [if_neg h0] at hf;refine n0 (.int .i64 0) (.int .i64 0) (v := .int .i64 0) (f:=false) KZ gz (fun w=>by kernel_rfl) (fun _ _ => .int _ _) (by rw [hf]; rfl) (by rw [hf]; rfl) ?_;refine gO Tryz.func236 ?_;refine aQ ?_;refine gO Tryz.func236 ?_;exact ⟨by rw [show aU z.ab ⟨n,t⟩ = -1 by omega],rfl⟩
theorem E4 (z:aG) (q:bj) (cut:Text) (b:Bool) (w:Text) (hs:fp z.ab):au E 240 [bw z q cut b w,bg z] [.ptr 0 0] (fun x h=>x = .d (.int .i64 (aU z.ab ⟨z.ah,4⟩))∧h=[bw z q cut b w,bg z]):=by
 have c1:=fun n t=>pQ z q cut b w n t hs;unfold bw bg at c1;unfold bw bg;refine au.run af (fn:=Tryz.f240) Tryz.func240 (body:=Tryz.f240.body.getD .skip) rfl (by decide) 2000 rfl ?_;conv=>whnf
 with_reducible refine bD (c1 z.ah 4) ?_
 refine gO Tryz.func240 ?_;exact ⟨rfl,rfl⟩
theorem Uz (l:List Int) (v:Int) (hl:l.length≤1000000):aq E 336 [.sl (l.map (.int .i64)),.int .i64 v] (fun r=>∃ n:Int,r = .int .i64 n∧(0≤n↔v∈l)):=by
 refine eP Tryz.func336 ?_;refine I.loop (κ:=Nat) ([4,5]++rg 8 11) (fun k=>[(8,.d (.int .i64 k))]) (fun _=>[]) (fun k=>k≤l.length∧∀ j x,j<k→l[j]? = some x→v≠x) (fun k=>l.length - k) 0 ⟨Nat.zero_le _,fun j x h=>by omega⟩ ?_ ?_
 ·exact sZ
 rintro k ⟨hk,aW⟩ IH;refine I.head af Tryz.func336 2000 ?_;(conv=>whnf);refine ai (fun h5=>?_) (fun h5=>?_)
 ·have aj:k<l.length:=by simpa using h5
  obtain ⟨x,hx⟩:=aL aj;refine gO Tryz.func336 ?_;refine aE (e := .int .i64 x) (aX hx) rfl ?_;refine gO Tryz.func336 ?_;by_cases e:v=x
  ·refine bh (by simpa using e) ?_;refine gO Tryz.func336 ?_;exact ⟨k,rfl,fun _=>e ▸ List.mem_of_getElem? hx,fun _=>by omega⟩
  ·refine aZ (by simpa using e) ?_;refine gO Tryz.func336 ?_;refine I.back (IH (k+1) ⟨by omega,fun j y hj hy=>?_⟩ (by omega)) ?_
   ·rcases Nat.lt_or_eq_of_le (Nat.le_of_lt_succ hj) with h | h
    ·exact aW j y h hy
    ·subst h; rw [hx] at hy; cases hy; exact e
   exact sZ
 ·have aC:k=l.length:=by simp at h5; omega
  subst aC;refine gO Tryz.func336 ?_;refine ⟨-1,rfl,fun h=>absurd h (by decide),fun h=>?_⟩;obtain ⟨j,hj⟩:=List.getElem?_of_mem h;exact absurd rfl (aW j v (List.getElem?_eq_some_iff.1 hj).1 hj)
theorem UA (l:List Int) (v:Int) (hl:l.length≤1000000):aq E 291 [.sl (l.map (.int .i64)),.int .i64 v] (· = .bool (decide (v∈l))):=by
 refine eP Tryz.func291 ?_
 with_reducible refine wL (Uz l v hl) ?_
 rintro r ⟨n,rfl,hn⟩;refine gO Tryz.func291 ?_;rw [show decide (n≥0)=decide (v∈l) by rw [Bool.eq_iff_iff,decide_eq_true_eq,decide_eq_true_eq]; exact hn]
theorem UB (z:aG) (q:bj) (cut:Text) (b:Bool) (w n:Text) (hv:∀ s∈z.ab,Nm.valid s.set.name=true) (hn:Nm.valid n=true) {i:Nat} {s:Signed} (hi:z.ab[i]? = some s):au E 293 [.cells [.ptr 2 0],.cells [.d (.str n)],.cells [.d (.str z.ah),.d (.sl (z.ab.map Signed.enc)),.map 3,.d (.str q.name),.d (.int .i64 q.type),.d (.str cut),.d (.bool b),.d (.str w)],bg z] [.d (.int .i64 i),.ptr 0 0,.ptr 1 0] (fun x h=>x = .d (.bool (!ic n s))∧h=[.cells [.ptr 2 0],.cells [.d (.str n)],.cells [.d (.str z.ah),.d (.sl (z.ab.map Signed.enc)),.map 3,.d (.str q.name),.d (.int .i64 q.type),.d (.str cut),.d (.bool b),.d (.str w)],bg z]):=by
 have c1:=KY s.set.name n (hv s (List.mem_of_getElem? hi)) hn;unfold bg;refine au.run af (fn:=Tryz.f293) Tryz.func293 (body:=Tryz.f293.body.getD .skip) rfl (by decide) 2000 rfl ?_;(conv=>whnf);refine I.bH af bI 2000 (by kernel_rfl) ?_;(conv=>whnf);refine aE (e:=s.enc) (aX hi) rfl ?_;refine gD ?_;refine ay (c1) ?_;refine gD ?_;refine gO Tryz.func293 ?_;refine ⟨?_,rfl⟩;refine congrArg (fun b=>AV.d (DV.bool b)) ?_;unfold ic;rw [Bool.eq_iff_iff];simp
theorem UC (z:aG) (q:bj) (cut:Text) (b:Bool) (w n:Text) (hs:fp z.ab) (hl:z.ab.length≤1000000) (hv:∀ s∈z.ab,Nm.valid s.set.name=true) (hn:Nm.valid n=true):au E 292 [.cells [.ptr 2 0],.cells [.d (.str n)],.cells [.d (.str z.ah),.d (.sl (z.ab.map Signed.enc)),.map 3,.d (.str q.name),.d (.int .i64 q.type),.d (.str cut),.d (.bool b),.d (.str w)],bg z] [.d (.int .i64 z.ab.length),.fn (.func 293) [] [.ptr 0 0,.ptr 1 0]] (fun x h=>x = .d (.int .i64 (gv (ic n) z.ab))∧h=[.cells [.ptr 2 0],.cells [.d (.str n)],.cells [.d (.str z.ah),.d (.sl (z.ab.map Signed.enc)),.map 3,.d (.str q.name),.d (.int .i64 q.type),.d (.str cut),.d (.bool b),.d (.str w)],bg z]):=by
 have c1:=fun i s hi=>UB z q cut b w n hv hn (i:=i) (s:=s) hi;have hc:∀ i s,z.ab[i]? = some s→(ic n s=true↔i<gv (ic n) z.ab):=fun i s hi=>by rw [← lt_iff hs hi]; simp [ic]
 have dm:=yk (P:=ic n) (l:=z.ab);generalize gv (ic n) z.ab=m at *;unfold bg at *;refine au.run af (fn:=Tryz.f292) Tryz.func292 (body:=Tryz.f292.body.getD .skip) rfl (by decide) 2000 rfl ?_;(conv=>whnf);refine I.loop (κ:=Nat × Nat) [5,6,7,9,10,11,12,13,14,15,16,17,18,19,20,21,22,23,24] (fun k=>[(5,.d (.int .i64 k.1)),(6,.d (.int .i64 k.2))]) (fun _=>[]) (fun k=>k.1≤m∧m≤k.2∧k.2≤z.ab.length) (fun k=>k.2 - k.1) (0,z.ab.length) ⟨Nat.zero_le _,dm,Nat.le_refl _⟩ ?_ ?_
 ·exact sZ
 rintro ⟨i,j⟩ ⟨k1,k2,k3⟩ IH;simp only at k1 k2 k3;refine I.head af Tryz.func292 2000 ?_;(conv=>whnf);refine ai (fun h5=>?_) (fun h5=>?_)
 ·have aj:i<j:=by simpa using h5
  obtain ⟨x,hx⟩:=aL (l:=z.ab) (k:=(i+j) / 2) (by omega);have xL:=KO (i:=i) (j:=j) (by omega);have yn:=hc _ x hx;refine gO Tryz.func292 ?_;refine a8 (by decide) ?_;refine gO Tryz.func292 ?_;rw [show IntKind.i64.wrap (oW .shr .u64 (IntKind.u64.wrap (IntKind.i64.wrap (((i,j).fst:Int)+((i,j).snd:Int)))) (Int.toNat 1))=(((i+j) / 2:Nat):Int) from xL]
  with_reducible refine bD (c1 _ x hx) ?_
  refine gO Tryz.func292 ?_;cases h6:ic n x
  ·have:¬ (i+j) / 2<m:=fun e=>by rw [yn.2 e] at h6; cases h6
   refine aZ (by decide) ?_;refine gO Tryz.func292 ?_;refine I.back (IH (i,(i+j) / 2) ⟨k1,by simp only; omega,by simp only; omega⟩ (by simp only; omega)) ?_;exact sZ
  ·have:=yn.1 h6;refine bh (by decide) ?_;refine gO Tryz.func292 ?_;refine I.back (IH ((i+j) / 2+1,j) ⟨by simp only; omega,k2,k3⟩ (by simp only; omega)) ?_;exact sZ
 ·have aC:i=m:=by simp at h5; omega
  subst aC;refine gO Tryz.func292 ?_;exact ⟨rfl,rfl⟩
theorem UD (z:aG) (q:bj) (cut:Text) (b:Bool) (w n:Text) (hs:fp z.ab) (hl:z.ab.length≤1000000) (hv:∀ s∈z.ab,Nm.valid s.set.name=true) (hn:Nm.valid n=true):au E 239 [bw z q cut b w,bg z] [.ptr 0 0,.d (.str n)] (fun x h=>x = .d (.bool (jm z.ab n))∧h=[bw z q cut b w,bg z,.cells [.ptr 0 0],.cells [.d (.str n)]]):=by
 have c1:=UC z q cut b w n hs hl hv hn;have hex:=Up hs (n:=n);have dm:=yk (P:=ic n) (l:=z.ab);rw [hex];generalize gv (ic n) z.ab=m at *;clear hex;unfold bg at c1;unfold bw bg;refine au.run af (fn:=Tryz.f239) Tryz.func239 (body:=Tryz.f239.body.getD .skip) rfl (by decide) 2000 rfl ?_;(conv=>whnf);rw [show ((z.ab.map Signed.enc).length:Int)=(z.ab.length:Int) by simp]
 with_reducible refine bD (c1) ?_
 refine gO Tryz.func239 ?_;rcases Nat.lt_or_ge m z.ab.length with h1 | h1
 ·obtain ⟨x,hx⟩:=aL h1;have c2:=ta x.set.name n (hv x (List.mem_of_getElem? hx)) hn;rw [hx];refine I.bH af bI 2000 (by kernel_rfl) ?_;(conv=>whnf);refine bh (decide_eq_true (by simp; omega)) ?_;refine gD ?_;refine aE (e:=x.enc) (aX hx) rfl ?_;refine gD ?_;refine ay (c2) ?_;refine gD ?_;refine gO Tryz.func239 ?_;exact ⟨rfl,rfl⟩
 ·rw [List.getElem?_eq_none h1];refine I.bH af bI 2000 (by kernel_rfl) ?_;(conv=>whnf);refine aZ (decide_eq_false (by simp; omega)) ?_;refine gD ?_;refine gO Tryz.func239 ?_;exact ⟨rfl,rfl⟩
end Go.Proofs.YtfmdaiojokniiaaGreatDoor.P
