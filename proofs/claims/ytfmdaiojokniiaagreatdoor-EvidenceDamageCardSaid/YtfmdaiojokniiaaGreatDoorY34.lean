/- Several texts of mine, one behind the other. Conditions: as each says. -/
import Derived.Test.YtfmdaiojokniiaaGreatDoorY20
import Derived.Test.YtfmdaiojokniiaaGreatDoorY33
set_option linter.unusedVariables false
set_option linter.unusedSimpArgs false
namespace Go.Proofs.YtfmdaiojokniiaaGreatDoor.P
open Go Go.ax
set_option maxRecDepth 100000
set_option maxHeartbeats 4000000
theorem T' (a b:bw):dY a.enc b.enc=decide (a=b):=by
 obtain ⟨an,at_⟩:=a;obtain ⟨bn,bt⟩:=b;show dY (DV.agg [.str an,.int .i64 at_]) (DV.agg [.str bn,.int .i64 bt])=_;rw [Bool.eq_iff_iff];simp [dY,rp,oz];exact fun _ _=>by decide
def vm (l:List Signed):List (DV × DV):=l.zipIdx.foldl (fun es p=>bM (bw.enc ⟨p.1.set.name,p.1.set.type⟩) (.int .i64 p.2) es) []
theorem Ua (l:List Signed) (x:Signed):vm (l++[x])=bM (bw.enc ⟨x.set.name,x.set.type⟩) (.int .i64 l.length) (vm l):=by
 rw [vm,List.zipIdx_append,List.foldl_append];simp [vm]
theorem Ky {l:List Signed} {k:Nat} {x:Signed} (h:l[k]? = some x):vm (l.take (k+1))=bM (bw.enc ⟨x.set.name,x.set.type⟩) (.int .i64 k) (vm (l.take k)):=by
 have hk:k<l.length:=(List.getElem?_eq_some_iff.1 h).1;rw [cQ h,Ua,List.length_take,Nat.min_eq_left (by omega)]
theorem Kz (l:List Signed):lr bw.enc (vm l):=by
 have main:∀ (l:List (Signed × Nat)) (es:List (DV × DV)),lr bw.enc es→lr bw.enc (l.foldl (fun es p=>bM (bw.enc ⟨p.1.set.name,p.1.set.type⟩) (.int .i64 p.2) es) es):=by
  intro l
  induction l with
  |nil=>intro es h; exact h
  |cons p l ih=>intro es h; exact ih _ (DW h)
 exact main _ _ fun p hp=>by simp at hp
theorem Ub {q:bw} {x:Signed} (h:q≠⟨x.set.name,x.set.type⟩):cE q x=false:=by
 cases e:cE q x
 ·rfl
 ·exact absurd (Ey e) h
theorem Uc {l:List Signed} {q:bw} {x:Signed} (h:q≠⟨x.set.name,x.set.type⟩):aU (l++[x]) q=aU l q:=by
 unfold aU;rw [List.findIdx?_append];cases e:l.findIdx? (cE q) with
 |some k=>simp
 |none=>simp [List.findIdx?_cons,Ub h]
theorem KA {q:bw} {l:List Signed} (hs:fc l):∀ (k:Nat),k≤l.length→findD q.enc (vm (l.take k))=if 0≤aU (l.take k) q then some (.int .i64 (aU (l.take k) q)) else none
 | 0,_=>by simp [vm,findD,aU]
 |k+1,hk=>by
  obtain ⟨x,hx⟩:=aD (l:=l) (k:=k) (by omega);have ih:=KA (q:=q) hs k (by omega);have Ud:fc (l.take (k+1)):=fun i j a b dm ha hb=>by
   rw [List.getElem?_take] at ha hb;split at ha
   case isFalse=>cases ha
   split at hb
   case isFalse=>cases hb
   exact hs i j a b dm ha hb
  rw [Ky hx,DX T' (Kz _)];by_cases e:q=⟨x.set.name,x.set.type⟩
  ·subst e;have:=T0 Ud (k:=k) (x:=x) (by rw [List.getElem?_take,if_pos (by omega)]; exact hx);rw [if_pos rfl,this,if_pos (by omega)]
  ·rw [if_neg e,cQ hx,Uc e];exact ih
theorem Ue {q:bw} {l:List Signed} (hs:fc l):findD q.enc (vm l)=if 0≤aU l q then some (.int .i64 (aU l q)) else none:=by
 have:=KA (q:=q) hs l.length (Nat.le_refl _)
 rwa [List.take_length] at this
theorem EC (q:bw):cW E.T (.struct [(0,9),(1,3)]) q.enc:=⟨_,rfl,rfl,⟨_,rfl,_,rfl⟩,rfl,⟨_,rfl,_,rfl⟩,trivial⟩
theorem KB (l:List Signed):∀ p∈vm l,cW E.T (.struct [(0,9),(1,3)]) p.1:=fun p hp=>by
 obtain ⟨a,ha⟩:=Kz l p hp;rw [ha];exact EC a
def bq (z:aR) (q:bw) (cut:Text) (b:Bool) (w:Text):ae := .cells [.d (.str z.aj),.d (.sl (z.ab.map Signed.enc)),.map 1,.d (.str q.name),.d (.int .i64 q.type),.d (.str cut),.d (.bool b),.d (.str w)]
def bh (z:aR):ae := .map (vm z.ab)
theorem KC (a b:Text) (ha:Nm.valid a=true) (hb:Nm.valid b=true):aq E 294 [.str a,.str b] (· = .int .i64 (bp a b)):=by
 refine eP Tryz.func294 ?_;refine ao (Dv a b ha hb) ?_;refine gO Tryz.func294 ?_
 with_reducible rfl
theorem sH (a b:Text) (ha:Nm.valid a=true) (hb:Nm.valid b=true):aq E 237 [.str a,.str b] (· = .bool (Nm.under a b)):=by
 have c1:=uk a b (by have:=eB ha; exact ou (by omega)) (by have:=eB hb; exact ou (by omega));refine eP Tryz.func237 ?_;refine ao (c1) ?_;refine gO Tryz.func237 ?_;rw [zS ha hb]
theorem Uf (z:aR) (q:bw) (hl:z.ab.length≤1000000):aw E 156 [] [.d z.enc,.d q.enc] (fun a b=>a = .ptr 3 0∧b=[.cells [.d (.str z.aj),.d (.sl (z.ab.map Signed.enc))],.cells [.d (.str q.name),.d (.int .i64 q.type)],.map (vm z.ab),.cells [.d (.str z.aj),.d (.sl (z.ab.map Signed.enc)),.map 2,.d (.str q.name),.d (.int .i64 q.type),.d (.str []),.d (.bool false),.d (.str [])]]):=by
 obtain ⟨aj,l⟩:=z;obtain ⟨qn,qt⟩:=q;show aw E _ [] [.d (DV.agg [.str aj,.sl (l.map Signed.enc)]),.d (DV.agg [.str qn,.int .i64 qt])] _;refine aw.run af (fn:=Tryz.f156) Tryz.func156 (body:=Tryz.f156.body.getD .skip) rfl (by decide) 2000 rfl ?_;(conv=>whnf);refine I.bH af bI 2000 (by kernel_rfl) ?_;(conv=>whnf);refine bG.at rfl ?_;(conv=>whnf);refine jP.op (T9 (kt:=36) (et:=3) (by kernel_rfl) (bg rfl)) ?_;refine gD ?_;refine And.intro (by kernel_rfl) ?_;(conv=>whnf);refine gO Tryz.func156 ?_;refine I.loop (κ:=Nat) ([6,7]++rg 22 18) (fun k=>[(22,.d (.int .i64 k))]) (fun k=>[(2,.map (vm (l.take k)))]) (fun k=>k≤l.length) (fun k=>l.length - k) 0 (Nat.zero_le _) ?_ ?_
 ·(conv=>whnf);repeat (first | exact trivial | (refine sI ?_; conv=>whnf))
  refine And.intro rfl ?_;exact sZ
 intro k hk IH;refine I.head af Tryz.func156 2000 ?_;(conv=>whnf);refine ah (fun h5=>?_) (fun h5=>?_)
 ·have ai:k<l.length:=by simpa using h5
  obtain ⟨x,hx⟩:=aD ai;have fM:=Ky hx;simp only at hl;refine gO Tryz.func156 ?_;refine aB (e:=x.enc) (aN hx) rfl ?_;refine gO Tryz.func156 ?_;refine I.bH af bI 2000 (by kernel_rfl) ?_;(conv=>whnf);refine bc ⟨EC ⟨x.set.name,x.set.type⟩,KB _⟩ ?_;refine gD ?_;refine And.intro (by kernel_rfl) ?_;(conv=>whnf);refine gO Tryz.func156 ?_;refine I.back (IH (k+1) (by omega) (by omega)) ?_;rw [fM];exact sZ
 ·have aC:l.length≤k:=by simpa using h5
  rw [List.take_of_length_le aC];refine gO Tryz.func156 ?_;exact ⟨rfl,rfl⟩
theorem pt (z:aR) (q:bw) (cut:Text) (b:Bool) (w:Text) (n:Text) (t:Int) (hs:fc z.ab):aw E 236 [bq z q cut b w,bh z] [.ptr 0 0,.d (.str n),.d (.int .i64 t)] (fun x h=>x = .d (.int .i64 (aU z.ab ⟨n,t⟩))∧h=[bq z q cut b w,bh z]):=by
 have hf:=Ue (q:=⟨n,t⟩) hs;have aC : -1≤aU z.ab ⟨n,t⟩:=fP.1;unfold bq bh;refine aw.run af (fn:=Tryz.f236) Tryz.func236 (body:=Tryz.f236.body.getD .skip) rfl (by decide) 2000 rfl ?_;(conv=>whnf);have fE:=KB z.ab;have KD:=EC ⟨n,t⟩;by_cases h0:0≤aU z.ab ⟨n,t⟩
 ·rw [if_pos h0] at hf;refine ny (.int .i64 0) (.int .i64 0) (v := .int .i64 (aU z.ab ⟨n,t⟩)) (f:=true) KD fE (fun w=>by kernel_rfl) (fun _ _ => .int _ _) (by rw [hf]; rfl) (by rw [hf]; rfl) ?_;refine gO Tryz.func236 ?_;refine aY ?_;refine gO Tryz.func236 ?_;exact ⟨rfl,rfl⟩
 ·rw [if_neg h0] at hf;refine ny (.int .i64 0) (.int .i64 0) (v := .int .i64 0) (f:=false) KD fE (fun w=>by kernel_rfl) (fun _ _ => .int _ _) (by rw [hf]; rfl) (by rw [hf]; rfl) ?_;refine gO Tryz.func236 ?_;refine aQ ?_;refine gO Tryz.func236 ?_;exact ⟨by rw [show aU z.ab ⟨n,t⟩ = -1 by omega],rfl⟩
theorem ED (z:aR) (q:bw) (cut:Text) (b:Bool) (w:Text) (hs:fc z.ab):aw E 240 [bq z q cut b w,bh z] [.ptr 0 0] (fun x h=>x = .d (.int .i64 (aU z.ab ⟨z.aj,4⟩))∧h=[bq z q cut b w,bh z]):=by
 have c1:=fun n t=>pt z q cut b w n t hs;unfold bq bh at c1;unfold bq bh;refine aw.run af (fn:=Tryz.f240) Tryz.func240 (body:=Tryz.f240.body.getD .skip) rfl (by decide) 2000 rfl ?_;conv=>whnf
 with_reducible refine bF (c1 z.aj 4) ?_
 refine gO Tryz.func240 ?_;exact ⟨rfl,rfl⟩
theorem Ug (l:List Int) (v:Int) (hl:l.length≤1000000):aq E 336 [.sl (l.map (.int .i64)),.int .i64 v] (fun r=>∃ n:Int,r = .int .i64 n∧(0≤n↔v∈l)):=by
 refine eP Tryz.func336 ?_;refine I.loop (κ:=Nat) ([4,5]++rg 8 11) (fun k=>[(8,.d (.int .i64 k))]) (fun _=>[]) (fun k=>k≤l.length∧∀ j x,j<k→l[j]? = some x→v≠x) (fun k=>l.length - k) 0 ⟨Nat.zero_le _,fun j x h=>by omega⟩ ?_ ?_
 ·exact sZ
 rintro k ⟨hk,aH⟩ IH;refine I.head af Tryz.func336 2000 ?_;(conv=>whnf);refine ah (fun h5=>?_) (fun h5=>?_)
 ·have ai:k<l.length:=by simpa using h5
  obtain ⟨x,hx⟩:=aD ai;refine gO Tryz.func336 ?_;refine aB (e := .int .i64 x) (aN hx) rfl ?_;refine gO Tryz.func336 ?_;by_cases e:v=x
  ·refine aV (by simpa using e) ?_;refine gO Tryz.func336 ?_;exact ⟨k,rfl,fun _=>e ▸ List.mem_of_getElem? hx,fun _=>by omega⟩
  ·refine aW (by simpa using e) ?_;refine gO Tryz.func336 ?_;refine I.back (IH (k+1) ⟨by omega,fun j y hj hy=>?_⟩ (by omega)) ?_
   ·rcases Nat.lt_or_eq_of_le (Nat.le_of_lt_succ hj) with h | h
    ·exact aH j y h hy
    ·subst h; rw [hx] at hy; cases hy; exact e
   exact sZ
 ·have aC:k=l.length:=by simp at h5; omega
  subst aC;refine gO Tryz.func336 ?_;refine ⟨-1,rfl,fun h=>absurd h (by decide),fun h=>?_⟩;obtain ⟨j,hj⟩:=List.getElem?_of_mem h;exact absurd rfl (aH j v (List.getElem?_eq_some_iff.1 hj).1 hj)
theorem Uh (l:List Int) (v:Int) (hl:l.length≤1000000):aq E 291 [.sl (l.map (.int .i64)),.int .i64 v] (· = .bool (decide (v∈l))):=by
 refine eP Tryz.func291 ?_
 with_reducible refine wk (Ug l v hl) ?_
 rintro r ⟨n,rfl,hn⟩;refine gO Tryz.func291 ?_;rw [show decide (n≥0)=decide (v∈l) by rw [Bool.eq_iff_iff,decide_eq_true_eq,decide_eq_true_eq]; exact hn]
theorem Ui (z:aR) (q:bw) (cut:Text) (b:Bool) (w n:Text) (hv:∀ s∈z.ab,Nm.valid s.set.name=true) (hn:Nm.valid n=true) {i:Nat} {s:Signed} (hi:z.ab[i]? = some s):aw E 293 [.cells [.ptr 2 0],.cells [.d (.str n)],.cells [.d (.str z.aj),.d (.sl (z.ab.map Signed.enc)),.map 3,.d (.str q.name),.d (.int .i64 q.type),.d (.str cut),.d (.bool b),.d (.str w)],bh z] [.d (.int .i64 i),.ptr 0 0,.ptr 1 0] (fun x h=>x = .d (.bool (!gY n s))∧h=[.cells [.ptr 2 0],.cells [.d (.str n)],.cells [.d (.str z.aj),.d (.sl (z.ab.map Signed.enc)),.map 3,.d (.str q.name),.d (.int .i64 q.type),.d (.str cut),.d (.bool b),.d (.str w)],bh z]):=by
 have c1:=KC s.set.name n (hv s (List.mem_of_getElem? hi)) hn;unfold bh;refine aw.run af (fn:=Tryz.f293) Tryz.func293 (body:=Tryz.f293.body.getD .skip) rfl (by decide) 2000 rfl ?_;(conv=>whnf);refine I.bH af bI 2000 (by kernel_rfl) ?_;(conv=>whnf);refine aB (e:=s.enc) (aN hi) rfl ?_;refine gD ?_;refine au (c1) ?_;refine gD ?_;refine gO Tryz.func293 ?_;refine ⟨?_,rfl⟩;refine congrArg (fun b=>AV.d (DV.bool b)) ?_;unfold gY;rw [Bool.eq_iff_iff];simp
theorem Uj (z:aR) (q:bw) (cut:Text) (b:Bool) (w n:Text) (hs:fc z.ab) (hl:z.ab.length≤1000000) (hv:∀ s∈z.ab,Nm.valid s.set.name=true) (hn:Nm.valid n=true):aw E 292 [.cells [.ptr 2 0],.cells [.d (.str n)],.cells [.d (.str z.aj),.d (.sl (z.ab.map Signed.enc)),.map 3,.d (.str q.name),.d (.int .i64 q.type),.d (.str cut),.d (.bool b),.d (.str w)],bh z] [.d (.int .i64 z.ab.length),.fn (.func 293) [] [.ptr 0 0,.ptr 1 0]] (fun x h=>x = .d (.int .i64 (gh (gY n) z.ab))∧h=[.cells [.ptr 2 0],.cells [.d (.str n)],.cells [.d (.str z.aj),.d (.sl (z.ab.map Signed.enc)),.map 3,.d (.str q.name),.d (.int .i64 q.type),.d (.str cut),.d (.bool b),.d (.str w)],bh z]):=by
 have c1:=fun i s hi=>Ui z q cut b w n hv hn (i:=i) (s:=s) hi;have hc:∀ i s,z.ab[i]? = some s→(gY n s=true↔i<gh (gY n) z.ab):=fun i s hi=>by rw [← lt_iff hs hi]; simp [gY]
 have cH:=xU (P:=gY n) (l:=z.ab);generalize gh (gY n) z.ab=m at *;unfold bh at *;refine aw.run af (fn:=Tryz.f292) Tryz.func292 (body:=Tryz.f292.body.getD .skip) rfl (by decide) 2000 rfl ?_;(conv=>whnf);refine I.loop (κ:=Nat × Nat) [5,6,7,9,10,11,12,13,14,15,16,17,18,19,20,21,22,23,24] (fun k=>[(5,.d (.int .i64 k.1)),(6,.d (.int .i64 k.2))]) (fun _=>[]) (fun k=>k.1≤m∧m≤k.2∧k.2≤z.ab.length) (fun k=>k.2 - k.1) (0,z.ab.length) ⟨Nat.zero_le _,cH,Nat.le_refl _⟩ ?_ ?_
 ·exact sZ
 rintro ⟨i,j⟩ ⟨k1,k2,k3⟩ IH;simp only at k1 k2 k3;refine I.head af Tryz.func292 2000 ?_;(conv=>whnf);refine ah (fun h5=>?_) (fun h5=>?_)
 ·have ai:i<j:=by simpa using h5
  obtain ⟨x,hx⟩:=aD (l:=z.ab) (k:=(i+j) / 2) (by omega);have xk:=Ks (i:=i) (j:=j) (by omega);have xW:=hc _ x hx;refine gO Tryz.func292 ?_;refine bc (by decide) ?_;refine gO Tryz.func292 ?_;rw [show IntKind.i64.wrap (oy .shr .u64 (IntKind.u64.wrap (IntKind.i64.wrap (((i,j).fst:Int)+((i,j).snd:Int)))) (Int.toNat 1))=(((i+j) / 2:Nat):Int) from xk]
  with_reducible refine bF (c1 _ x hx) ?_
  refine gO Tryz.func292 ?_;cases h6:gY n x
  ·have:¬ (i+j) / 2<m:=fun e=>by rw [xW.2 e] at h6; cases h6
   refine aW (by decide) ?_;refine gO Tryz.func292 ?_;refine I.back (IH (i,(i+j) / 2) ⟨k1,by simp only; omega,by simp only; omega⟩ (by simp only; omega)) ?_;exact sZ
  ·have:=xW.1 h6;refine aV (by decide) ?_;refine gO Tryz.func292 ?_;refine I.back (IH ((i+j) / 2+1,j) ⟨by simp only; omega,k2,k3⟩ (by simp only; omega)) ?_;exact sZ
 ·have aC:i=m:=by simp at h5; omega
  subst aC;refine gO Tryz.func292 ?_;exact ⟨rfl,rfl⟩
theorem Uk (z:aR) (q:bw) (cut:Text) (b:Bool) (w n:Text) (hs:fc z.ab) (hl:z.ab.length≤1000000) (hv:∀ s∈z.ab,Nm.valid s.set.name=true) (hn:Nm.valid n=true):aw E 239 [bq z q cut b w,bh z] [.ptr 0 0,.d (.str n)] (fun x h=>x = .d (.bool (jc z.ab n))∧h=[bq z q cut b w,bh z,.cells [.ptr 0 0],.cells [.d (.str n)]]):=by
 have c1:=Uj z q cut b w n hs hl hv hn;have hex:=T7 hs (n:=n);have cH:=xU (P:=gY n) (l:=z.ab);rw [hex];generalize gh (gY n) z.ab=m at *;clear hex;unfold bh at c1;unfold bq bh;refine aw.run af (fn:=Tryz.f239) Tryz.func239 (body:=Tryz.f239.body.getD .skip) rfl (by decide) 2000 rfl ?_;(conv=>whnf);rw [show ((z.ab.map Signed.enc).length:Int)=(z.ab.length:Int) by simp]
 with_reducible refine bF (c1) ?_
 refine gO Tryz.func239 ?_;rcases Nat.lt_or_ge m z.ab.length with h1 | h1
 ·obtain ⟨x,hx⟩:=aD h1;have c2:=sH x.set.name n (hv x (List.mem_of_getElem? hx)) hn;rw [hx];refine I.bH af bI 2000 (by kernel_rfl) ?_;(conv=>whnf);refine aV (decide_eq_true (by simp; omega)) ?_;refine gD ?_;refine aB (e:=x.enc) (aN hx) rfl ?_;refine gD ?_;refine au (c2) ?_;refine gD ?_;refine gO Tryz.func239 ?_;exact ⟨rfl,rfl⟩
 ·rw [List.getElem?_eq_none h1];refine I.bH af bI 2000 (by kernel_rfl) ?_;(conv=>whnf);refine aW (decide_eq_false (by simp; omega)) ?_;refine gD ?_;refine gO Tryz.func239 ?_;exact ⟨rfl,rfl⟩
end Go.Proofs.YtfmdaiojokniiaaGreatDoor.P
