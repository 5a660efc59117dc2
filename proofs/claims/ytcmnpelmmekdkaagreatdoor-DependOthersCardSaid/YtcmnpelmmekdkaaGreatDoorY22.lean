/- Several texts of mine, one behind the other. Conditions: as each says. -/
import Derived.Test.YtcmnpelmmekdkaaGreatDoorY19
import Derived.Test.YtcmnpelmmekdkaaGreatDoorY20
import Derived.Test.YtcmnpelmmekdkaaGreatDoorY21
set_option linter.unusedVariables false
set_option linter.unusedSimpArgs false
section
namespace Go.Proofs.YtcmnpelmmekdkaaGreatDoor.P
open Go Go.ax
set_option maxRecDepth 100000
set_option maxHeartbeats 4000000
theorem XA (a b:aS):eS a.enc b.enc=decide (a=b):=by
 obtain ⟨an,at_⟩:=a;obtain ⟨bn,bt⟩:=b;show eS (DV.agg [.str an,.int .i64 at_]) (DV.agg [.str bn,.int .i64 bt])=_;rw [Bool.eq_iff_iff];simp [eS,tR,qD];exact fun _ _=>by decide
def vm (l:List Signed):List (DV × DV):=l.zipIdx.foldl (fun es p=>cD (aS.enc ⟨p.1.set.name,p.1.set.type⟩) (.int .i64 p.2) es) []
theorem XB (l:List Signed) (x:Signed):vm (l++[x])=cD (aS.enc ⟨x.set.name,x.set.type⟩) (.int .i64 l.length) (vm l):=by
 rw [vm,List.zipIdx_append,List.foldl_append];simp [vm]
theorem OO {l:List Signed} {k:Nat} {x:Signed} (h:l[k]? = some x):vm (l.take (k+1))=cD (aS.enc ⟨x.set.name,x.set.type⟩) (.int .i64 k) (vm (l.take k)):=by
 have hk:k<l.length:=(List.getElem?_eq_some_iff.1 h).1;rw [eI h,XB,List.length_take,Nat.min_eq_left (by omega)]
theorem OP (l:List Signed):lA aS.enc (vm l):=by
 have main:∀ (l:List (Signed × Nat)) (es:List (DV × DV)),lA aS.enc es→lA aS.enc (l.foldl (fun es p=>cD (aS.enc ⟨p.1.set.name,p.1.set.type⟩) (.int .i64 p.2) es) es):=by
  intro l
  induction l with
  |nil=>intro es h; exact h
  |cons p l ih=>intro es h; exact ih _ (Dh h)
 exact main _ _ fun p hp=>by simp at hp
theorem XC {q:aS} {x:Signed} (h:q≠⟨x.set.name,x.set.type⟩):dp q x=false:=by
 cases e:dp q x
 ·rfl
 ·exact absurd (uZ e) h
theorem XD {l:List Signed} {q:aS} {x:Signed} (h:q≠⟨x.set.name,x.set.type⟩):aO (l++[x]) q=aO l q:=by
 unfold aO;rw [List.findIdx?_append];cases e:l.findIdx? (dp q) with
 |some k=>simp
 |none=>simp [List.findIdx?_cons,XC h]
theorem OQ {q:aS} {l:List Signed} (hs:fI l):∀ (k:Nat),k≤l.length→findD q.enc (vm (l.take k))=if 0≤aO (l.take k) q then some (.int .i64 (aO (l.take k) q)) else none
 | 0,_=>by simp [vm,findD,aO]
 |k+1,hk=>by
  obtain ⟨x,hx⟩:=aY (l:=l) (k:=k) (by omega);have ih:=OQ (q:=q) hs k (by omega);have XE:fI (l.take (k+1)):=fun i j a b dA ha hb=>by
   rw [List.getElem?_take] at ha hb;split at ha
   case isFalse=>cases ha
   split at hb
   case isFalse=>cases hb
   exact hs i j a b dA ha hb
  rw [OO hx,Di XA (OP _)];by_cases e:q=⟨x.set.name,x.set.type⟩
  ·subst e;have:=Dc XE (k:=k) (x:=x) (by rw [List.getElem?_take,if_pos (by omega)]; exact hx);rw [if_pos rfl,this,if_pos (by omega)]
  ·rw [if_neg e,eI hx,XD e];exact ih
theorem XF {q:aS} {l:List Signed} (hs:fI l):findD q.enc (vm l)=if 0≤aO l q then some (.int .i64 (aO l q)) else none:=by
 have:=OQ (q:=q) hs l.length (Nat.le_refl _)
 rwa [List.take_length] at this
theorem HJ (q:aS):ef E.T (.struct [(0,9),(1,3)]) q.enc:=⟨_,rfl,rfl,⟨_,rfl,_,rfl⟩,rfl,⟨_,rfl,_,rfl⟩,trivial⟩
theorem OR (l:List Signed):∀ p∈vm l,ef E.T (.struct [(0,9),(1,3)]) p.1:=fun p hp=>by
 obtain ⟨a,ha⟩:=OP l p hp;rw [ha];exact HJ a
def bF (z:aU) (q:aS) (cut:Text) (b:Bool) (w:Text):ag := .cells [.d (.str z.ab),.d (.sl (z.af.map Signed.enc)),.map 1,.d (.str q.name),.d (.int .i64 q.type),.d (.str cut),.d (.bool b),.d (.str w)]
def bu (z:aU):ag := .map (vm z.af)
theorem OS (a b:Text) (ha:Nm.valid a=true) (hb:Nm.valid b=true):aA E 151 [.str a,.str b] (· = .int .i64 (bA a b)):=by
 refine eP Tryz.func151 ?_;refine ar (C1 a b ha hb) ?_;refine gO Tryz.func151 ?_
 with_reducible rfl
theorem vh (a b:Text) (ha:Nm.valid a=true) (hb:Nm.valid b=true):aA E 95 [.str a,.str b] (· = .bool (Nm.under a b)):=by
 have c1:=zK a b (by have:=fF ha; exact o9 (by omega)) (by have:=fF hb; exact o9 (by omega));refine eP Tryz.func95 ?_;refine ar (c1) ?_;refine gO Tryz.func95 ?_;rw [Aa ha hb]
theorem XG (z:aU) (q:aS) (hl:z.af.length≤1000000):aC E 52 [] [.d z.enc,.d q.enc] (fun a b=>a = .ptr 3 0∧b=[.cells [.d (.str z.ab),.d (.sl (z.af.map Signed.enc))],.cells [.d (.str q.name),.d (.int .i64 q.type)],.map (vm z.af),.cells [.d (.str z.ab),.d (.sl (z.af.map Signed.enc)),.map 2,.d (.str q.name),.d (.int .i64 q.type),.d (.str []),.d (.bool false),.d (.str [])]]):=by
 obtain ⟨ab,l⟩:=z;obtain ⟨qn,qt⟩:=q;show aC E _ [] [.d (DV.agg [.str ab,.sl (l.map Signed.enc)]),.d (DV.agg [.str qn,.int .i64 qt])] _;refine aC.run aj (fn:=Tryz.f52) Tryz.func52 (body:=Tryz.f52.body.getD .skip) rfl (by decide) 2000 rfl ?_;(conv=>whnf);refine aa.Hh aj bW [0,1,2,3,4,5,6,8] [] 2000 (by kernel_rfl) ?_;(conv=>whnf);refine bw.run aj 2000 rfl rfl ?_;(conv=>whnf);refine bw.ON (kt:=54) (et:=3) rfl rfl rfl (by kernel_rfl) (bh rfl) ?_;(conv=>whnf);refine And.intro rfl ?_;(conv=>whnf);refine bw.run aj 2000 rfl rfl ?_;(conv=>whnf);refine And.intro rfl ?_;(conv=>whnf);refine bw.run aj 2000 rfl rfl ?_;(conv=>whnf);refine And.intro rfl ?_;(conv=>whnf);refine bw.run aj 2000 rfl rfl ?_;(conv=>whnf);refine And.intro rfl ?_;(conv=>whnf);refine bw.run aj 2000 rfl rfl ?_;(conv=>whnf);refine gO Tryz.func52 ?_;refine aa.loop (κ:=Nat) ([6,7]++rg 22 18) (fun k=>[(22,.d (.int .i64 k))]) (fun k=>[(2,.map (vm (l.take k)))]) (fun k=>k≤l.length) (fun k=>l.length - k) 0 (Nat.zero_le _) ?_ ?_
 ·(conv=>whnf);repeat (first | exact trivial | (refine sI ?_; conv=>whnf))
  refine And.intro rfl ?_;exact sZ
 intro k hk IH;refine aa.head aj Tryz.func52 2000 ?_;(conv=>whnf);refine aw (fun h5=>?_) (fun h5=>?_)
 ·have ai:k<l.length:=by simpa using h5
  obtain ⟨x,hx⟩:=aY ai;have bS:=OO hx;simp only at hl;refine gO Tryz.func52 ?_;refine aF (e:=x.enc) (a7 hx) rfl ?_;refine gO Tryz.func52 ?_;refine aa.draw aj bW 12 2000 (by kernel_rfl) ?_;(conv=>whnf);refine gS ?_;refine bQ ⟨HJ ⟨x.set.name,x.set.type⟩,OR _⟩ ?_;refine gS ?_;refine gO Tryz.func52 ?_;refine aa.back (IH (k+1) (by omega) (by omega)) ?_;rw [bS];exact sZ
 ·have aP:l.length≤k:=by simpa using h5
  rw [List.take_of_length_le aP];refine gO Tryz.func52 ?_;exact ⟨rfl,rfl⟩
theorem rD (z:aU) (q:aS) (cut:Text) (b:Bool) (w:Text) (n:Text) (t:Int) (hs:fI z.af):aC E 94 [bF z q cut b w,bu z] [.ptr 0 0,.d (.str n),.d (.int .i64 t)] (fun x h=>x = .d (.int .i64 (aO z.af ⟨n,t⟩))∧h=[bF z q cut b w,bu z]):=by
 have hf:=XF (q:=⟨n,t⟩) hs;have aP : -1≤aO z.af ⟨n,t⟩:=ib.1;unfold bF bu;refine aC.run aj (fn:=Tryz.f94) Tryz.func94 (body:=Tryz.f94.body.getD .skip) rfl (by decide) 2000 rfl ?_;(conv=>whnf);have dD:=OR z.af;have OU:=HJ ⟨n,t⟩;by_cases h0:0≤aO z.af ⟨n,t⟩
 ·rw [if_pos h0] at hf;refine iR (.int .i64 0) (.int .i64 0) (v := .int .i64 (aO z.af ⟨n,t⟩)) (f:=true) OU dD (fun w=>by kernel_rfl) (fun _ _ => .int _ _) (by rw [hf]; rfl) (by rw [hf]; rfl) ?_;refine gO Tryz.func94 ?_;refine bq ?_;refine gO Tryz.func94 ?_;exact ⟨rfl,rfl⟩
 ·rw [if_neg h0] at hf;refine iR (.int .i64 0) (.int .i64 0) (v := .int .i64 0) (f:=false) OU dD (fun w=>by kernel_rfl) (fun _ _ => .int _ _) (by rw [hf]; rfl) (by rw [hf]; rfl) ?_;refine gO Tryz.func94 ?_;refine ba ?_;refine gO Tryz.func94 ?_;exact ⟨by rw [show aO z.af ⟨n,t⟩ = -1 by omega],rfl⟩
theorem HK (z:aU) (q:aS) (cut:Text) (b:Bool) (w:Text) (hs:fI z.af):aC E 98 [bF z q cut b w,bu z] [.ptr 0 0] (fun x h=>x = .d (.int .i64 (aO z.af ⟨z.ab,4⟩))∧h=[bF z q cut b w,bu z]):=by
 have c1:=fun n t=>rD z q cut b w n t hs;unfold bF bu at c1;unfold bF bu;refine aC.run aj (fn:=Tryz.f98) Tryz.func98 (body:=Tryz.f98.body.getD .skip) rfl (by decide) 2000 rfl ?_;conv=>whnf
 with_reducible refine bR (c1 z.ab 4) ?_
 refine gO Tryz.func98 ?_;exact ⟨rfl,rfl⟩
theorem XH (l:List Int) (v:Int) (hl:l.length≤1000000):aA E 210 [.sl (l.map (.int .i64)),.int .i64 v] (fun r=>∃ n:Int,r = .int .i64 n∧(0≤n↔v∈l)):=by
 refine eP Tryz.func210 ?_;refine aa.loop (κ:=Nat) ([4,5]++rg 8 11) (fun k=>[(8,.d (.int .i64 k))]) (fun _=>[]) (fun k=>k≤l.length∧∀ j x,j<k→l[j]? = some x→v≠x) (fun k=>l.length - k) 0 ⟨Nat.zero_le _,fun j x h=>by omega⟩ ?_ ?_
 ·exact sZ
 rintro k ⟨hk,aT⟩ IH;refine aa.head aj Tryz.func210 2000 ?_;(conv=>whnf);refine aw (fun h5=>?_) (fun h5=>?_)
 ·have ai:k<l.length:=by simpa using h5
  obtain ⟨x,hx⟩:=aY ai;refine gO Tryz.func210 ?_;refine aF (e := .int .i64 x) (a7 hx) rfl ?_;refine gO Tryz.func210 ?_;by_cases e:v=x
  ·refine aM (by simpa using e) ?_;refine gO Tryz.func210 ?_;exact ⟨k,rfl,fun _=>e ▸ List.mem_of_getElem? hx,fun _=>by omega⟩
  ·refine aI (by simpa using e) ?_;refine gO Tryz.func210 ?_;refine aa.back (IH (k+1) ⟨by omega,fun j y hj hy=>?_⟩ (by omega)) ?_
   ·rcases Nat.lt_or_eq_of_le (Nat.le_of_lt_succ hj) with h | h
    ·exact aT j y h hy
    ·subst h; rw [hx] at hy; cases hy; exact e
   exact sZ
 ·have aP:k=l.length:=by simp at h5; omega
  subst aP;refine gO Tryz.func210 ?_;refine ⟨-1,rfl,fun h=>absurd h (by decide),fun h=>?_⟩;obtain ⟨j,hj⟩:=List.getElem?_of_mem h;exact absurd rfl (aT j v (List.getElem?_eq_some_iff.1 hj).1 hj)
theorem XI (l:List Int) (v:Int) (hl:l.length≤1000000):aA E 146 [.sl (l.map (.int .i64)),.int .i64 v] (· = .bool (decide (v∈l))):=by
 refine eP Tryz.func146 ?_
 with_reducible refine ug (XH l v hl) ?_
 rintro r ⟨n,rfl,hn⟩;refine gO Tryz.func146 ?_;rw [show decide (n≥0)=decide (v∈l) by rw [Bool.eq_iff_iff,decide_eq_true_eq,decide_eq_true_eq]; exact hn]
theorem XJ (z:aU) (q:aS) (cut:Text) (b:Bool) (w n:Text) (hv:∀ s∈z.af,Nm.valid s.set.name=true) (hn:Nm.valid n=true) {i:Nat} {s:Signed} (hi:z.af[i]? = some s):aC E 150 [.cells [.ptr 2 0],.cells [.d (.str n)],.cells [.d (.str z.ab),.d (.sl (z.af.map Signed.enc)),.map 3,.d (.str q.name),.d (.int .i64 q.type),.d (.str cut),.d (.bool b),.d (.str w)],bu z] [.d (.int .i64 i),.ptr 0 0,.ptr 1 0] (fun x h=>x = .d (.bool (!iZ n s))∧h=[.cells [.ptr 2 0],.cells [.d (.str n)],.cells [.d (.str z.ab),.d (.sl (z.af.map Signed.enc)),.map 3,.d (.str q.name),.d (.int .i64 q.type),.d (.str cut),.d (.bool b),.d (.str w)],bu z]):=by
 have c1:=OS s.set.name n (hv s (List.mem_of_getElem? hi)) hn;unfold bu;refine aC.run aj (fn:=Tryz.f150) Tryz.func150 (body:=Tryz.f150.body.getD .skip) rfl (by decide) 2000 rfl ?_;(conv=>whnf);refine aa.draw aj bW 13 2000 (by kernel_rfl) ?_;(conv=>whnf);refine aF (e:=s.enc) (a7 hi) rfl ?_;refine gD ?_;refine bg (c1) ?_;refine gD ?_;refine gS ?_;refine gO Tryz.func150 ?_;refine ⟨?_,rfl⟩;refine congrArg (fun b=>AV.d (DV.bool b)) ?_;unfold iZ;rw [Bool.eq_iff_iff];simp
theorem XK (z:aU) (q:aS) (cut:Text) (b:Bool) (w n:Text) (hs:fI z.af) (hl:z.af.length≤1000000) (hv:∀ s∈z.af,Nm.valid s.set.name=true) (hn:Nm.valid n=true):aC E 149 [.cells [.ptr 2 0],.cells [.d (.str n)],.cells [.d (.str z.ab),.d (.sl (z.af.map Signed.enc)),.map 3,.d (.str q.name),.d (.int .i64 q.type),.d (.str cut),.d (.bool b),.d (.str w)],bu z] [.d (.int .i64 z.af.length),.fn (.func 150) [] [.ptr 0 0,.ptr 1 0]] (fun x h=>x = .d (.int .i64 (iv (iZ n) z.af))∧h=[.cells [.ptr 2 0],.cells [.d (.str n)],.cells [.d (.str z.ab),.d (.sl (z.af.map Signed.enc)),.map 3,.d (.str q.name),.d (.int .i64 q.type),.d (.str cut),.d (.bool b),.d (.str w)],bu z]):=by
 have c1:=fun i s hi=>XJ z q cut b w n hv hn (i:=i) (s:=s) hi;have hc:∀ i s,z.af[i]? = some s→(iZ n s=true↔i<iv (iZ n) z.af):=fun i s hi=>by rw [← lt_iff hs hi]; simp [iZ]
 have eh:=Aq (P:=iZ n) (l:=z.af);generalize iv (iZ n) z.af=m at *;unfold bu at *;refine aC.run aj (fn:=Tryz.f149) Tryz.func149 (body:=Tryz.f149.body.getD .skip) rfl (by decide) 2000 rfl ?_;(conv=>whnf);refine aa.loop (κ:=Nat × Nat) [5,6,7,9,10,11,12,13,14,15,16,17,18,19,20,21,22,23,24] (fun k=>[(5,.d (.int .i64 k.1)),(6,.d (.int .i64 k.2))]) (fun _=>[]) (fun k=>k.1≤m∧m≤k.2∧k.2≤z.af.length) (fun k=>k.2 - k.1) (0,z.af.length) ⟨Nat.zero_le _,eh,Nat.le_refl _⟩ ?_ ?_
 ·exact sZ
 rintro ⟨i,j⟩ ⟨k1,k2,k3⟩ IH;simp only at k1 k2 k3;refine aa.head aj Tryz.func149 2000 ?_;(conv=>whnf);refine aw (fun h5=>?_) (fun h5=>?_)
 ·have ai:i<j:=by simpa using h5
  obtain ⟨x,hx⟩:=aY (l:=z.af) (k:=(i+j) / 2) (by omega);have z7:=Oo (i:=i) (j:=j) (by omega);have Au:=hc _ x hx;refine gO Tryz.func149 ?_;refine bQ (by decide) ?_;refine gO Tryz.func149 ?_;rw [show IntKind.i64.wrap (qC .shr .u64 (IntKind.u64.wrap (IntKind.i64.wrap (((i,j).fst:Int)+((i,j).snd:Int)))) (Int.toNat 1))=(((i+j) / 2:Nat):Int) from z7]
  with_reducible refine bR (c1 _ x hx) ?_
  refine gO Tryz.func149 ?_;cases h6:iZ n x
  ·have:¬ (i+j) / 2<m:=fun e=>by rw [Au.2 e] at h6; cases h6
   refine aI (by decide) ?_;refine gO Tryz.func149 ?_;refine aa.back (IH (i,(i+j) / 2) ⟨k1,by simp only; omega,by simp only; omega⟩ (by simp only; omega)) ?_;exact sZ
  ·have:=Au.1 h6;refine aM (by decide) ?_;refine gO Tryz.func149 ?_;refine aa.back (IH ((i+j) / 2+1,j) ⟨by simp only; omega,k2,k3⟩ (by simp only; omega)) ?_;exact sZ
 ·have aP:i=m:=by simp at h5; omega
  subst aP;refine gO Tryz.func149 ?_;exact ⟨rfl,rfl⟩
theorem XL (z:aU) (q:aS) (cut:Text) (b:Bool) (w n:Text) (hs:fI z.af) (hl:z.af.length≤1000000) (hv:∀ s∈z.af,Nm.valid s.set.name=true) (hn:Nm.valid n=true):aC E 97 [bF z q cut b w,bu z] [.ptr 0 0,.d (.str n)] (fun x h=>x = .d (.bool (jA z.af n))∧h=[bF z q cut b w,bu z,.cells [.ptr 0 0],.cells [.d (.str n)]]):=by
 have c1:=XK z q cut b w n hs hl hv hn;have hex:=Xs hs (n:=n);have eh:=Aq (P:=iZ n) (l:=z.af);rw [hex];generalize iv (iZ n) z.af=m at *;clear hex;unfold bu at c1;unfold bF bu;refine aC.run aj (fn:=Tryz.f97) Tryz.func97 (body:=Tryz.f97.body.getD .skip) rfl (by decide) 2000 rfl ?_;(conv=>whnf);rw [show ((z.af.map Signed.enc).length:Int)=(z.af.length:Int) by simp]
 with_reducible refine bR (c1) ?_
 refine gO Tryz.func97 ?_;rcases Nat.lt_or_ge m z.af.length with h1 | h1
 ·obtain ⟨x,hx⟩:=aY h1;have c2:=vh x.set.name n (hv x (List.mem_of_getElem? hx)) hn;rw [hx];refine aa.draw aj bW 21 2000 (by kernel_rfl) ?_;(conv=>whnf);refine aM (decide_eq_true (by simp; omega)) ?_;refine gD ?_;refine aF (e:=x.enc) (a7 hx) rfl ?_;refine gD ?_;refine bg (c2) ?_;refine gD ?_;refine gS ?_;refine gO Tryz.func97 ?_;exact ⟨rfl,rfl⟩
 ·rw [List.getElem?_eq_none h1];refine aa.draw aj bW 21 2000 (by kernel_rfl) ?_;(conv=>whnf);refine aI (decide_eq_false (by simp; omega)) ?_;refine gD ?_;refine gS ?_;refine gO Tryz.func97 ?_;exact ⟨rfl,rfl⟩
end Go.Proofs.YtcmnpelmmekdkaaGreatDoor.P
end
section
namespace Go.Proofs.YtcmnpelmmekdkaaGreatDoor.P
open Go Go.ax
set_option maxRecDepth 100000
set_option maxHeartbeats 4000000
def oT (k:Int) (l:List Signed) (c:Text):DV := .agg [.int .i64 k,.sl (l.map Signed.enc),.str c]
theorem XM {z:aU} {ps:List Int} {k:Nat} {p:Int} (hp:ps[k]? = some p) {s:Signed} (h0:0≤p) (hs:z.af[p.toNat]? = some s):dI z.af (cV (ps.take (k+1)))=if p∈ps.take k then dI z.af (cV (ps.take k)) else dI z.af (cV (ps.take k))++[s]:=by
 rw [Ou hp,Xq h0 hs];have:p∈cV (ps.take k)↔p∈ps.take k:=by rw [Ov]; exact ⟨fun h=>h.2,fun h=>⟨h0,h⟩⟩
 by_cases e:p∈ps.take k
 ·rw [if_pos e,if_pos (this.2 e)]
 ·rw [if_neg e,if_neg (fun h=>e (this.1 h))]
theorem XN {ps:List Int} {k:Nat} {p:Int} (hp:ps[k]? = some p) (h0:p<0):cV (ps.take (k+1))=cV (ps.take k):=by
 rw [Ou hp,ic,if_pos (.inl h0)]
theorem XO (z:aU) (q:aS) (cut:Text) (b:Bool) (w:Text) (kind:Int) (ps:List Int) (hf:z.mc) (eF:∀ p∈ps,p<z.af.length) (hl:ps.length≤1000):aC E 96 [bF z q cut b w,bu z] [.ptr 0 0,.d (.int .i64 kind),.d (.sl (ps.map (.int .i64)))] (fun x h=>x = .d (oT kind (dI z.af (cV ps)) [])∧h=[bF z q cut b w,bu z,.cells [.d (.int .i64 kind),.d (.sl ((dI z.af (cV ps)).map Signed.enc)),.d (.str [])],.cells [.d (.int .i64 kind),.d (.sl ((dI z.af (cV ps)).map Signed.enc)),.d (.str [])],.gone]):=by
 obtain ⟨um,iN⟩:=hf;unfold bF bu oT;refine aC.run aj (fn:=Tryz.f96) Tryz.func96 (body:=Tryz.f96.body.getD .skip) rfl (by decide) 2000 rfl ?_;(conv=>whnf);refine aa.rz 3 1 (57,5) (by decide) rfl rfl ?_;(conv=>whnf);refine aa.loop (κ:=Nat) ([8,9,10]++rg 15 38) (fun k=>[(15,.d (.int .i64 k))]) (fun k=>[(3,.cells [.d (.int .i64 kind),.own 4 1,.d (.str [])]),(4,.arr 1 (57,5) ((dI z.af (cV (ps.take k))).map Signed.enc))]) (fun k=>k≤ps.length) (fun k=>ps.length - k) 0 (Nat.zero_le _) ?_ ?_
 ·(conv=>whnf);repeat (first | exact trivial | (refine sI ?_; conv=>whnf))
  refine And.intro rfl ?_;exact sZ
 intro k hk IH;refine aa.head aj Tryz.func96 2000 ?_;(conv=>whnf);refine aw (fun h5=>?_) (fun h5=>?_)
 ·have ai:k<ps.length:=by simpa using h5
  obtain ⟨p,hp⟩:=aY ai;refine gO Tryz.func96 ?_;refine aF (e := .int .i64 p) (a7 hp) rfl ?_;refine gO Tryz.func96 ?_;refine aw (fun h6=>?_) (fun h6=>?_)
  ·have h0:=of_decide_eq_true h6;have bS:=XN hp h0;refine gO Tryz.func96 ?_;refine bq ?_;refine gO Tryz.func96 ?_;refine aa.back (IH (k+1) (by omega) (by omega)) ?_;rw [bS];exact sZ
  ·have h0:=of_decide_eq_false h6;obtain ⟨x,hx⟩:=aY (l:=z.af) (k:=p.toNat) (by have:=eF p (List.mem_of_getElem? hp); omega);have bS:=XM (z:=z) hp (by omega) hx;have iP:List.drop ((none:Option Int).getD 0).toNat (List.take ((some (k:Int)).getD ((ps.map (DV.int .i64)).length:Int)).toNat (ps.map (DV.int .i64)))=(ps.take k).map (DV.int .i64):=by simp [List.map_take]
   have c1:=XI (ps.take k) p (by simp; omega);have A1:nK (z.af.map Signed.enc) p x.enc:=by
    have:=a7 (f:=Signed.enc) hx
    rwa [Int.toNat_of_nonneg (by omega)] at this
   have kz:=Dd (l:=z.af) (ps:=cV (ps.take k));have lL:=Hu (ps:=ps.take k);obtain ⟨q1,q2⟩:=iN x (List.mem_of_getElem? hx);refine gO Tryz.func96 ?_;refine bQ ⟨by simp,by simp,by simp; omega,fun e he=>by obtain ⟨y,_,rfl⟩:=List.mem_map.1 he; rfl⟩ ?_;(conv=>whnf);rw [iP];refine gO Tryz.func96 ?_;refine ar (c1) ?_;refine gO Tryz.func96 ?_;by_cases dT:p∈ps.take k
   ·rw [if_pos dT] at bS;refine aM (decide_eq_true dT) ?_;refine gO Tryz.func96 ?_;refine aa.back (IH (k+1) (by omega) (by omega)) ?_;rw [bS];exact sZ
   ·rw [if_neg dT] at bS;refine aI (decide_eq_false dT) ?_;refine gO Tryz.func96 ?_;refine aF (e:=x.enc) A1 rfl ?_;refine gO Tryz.func96 ?_;refine ar (Xk (x.set.data.map Datum.enc) (by simpa using q1) (fun e h=>by obtain ⟨d,_,rfl⟩:=List.mem_map.1 h; simp [DV.cells])) ?_;refine gO Tryz.func96 ?_;refine ar (Xl (x.sigs.map gW.enc) (by simpa using q2) (fun e h=>by obtain ⟨d,_,rfl⟩:=List.mem_map.1 h; simp [DV.cells])) ?_;refine gO Tryz.func96 ?_
    refine bQ ⟨by have : (ps.take k).length ≤ 1000 := by { rw [List.length_take]; omega }
                  simp only [List.length_map, List.length_cons, List.length_nil]; omega, by simp [DV.cells]⟩ ?_
    refine gO Tryz.func96 ?_;refine aa.back (IH (k+1) (by omega) (by omega)) ?_;rw [bS];(conv=>whnf);repeat (first | exact trivial | (refine sI ?_; conv=>whnf))
    refine And.intro (by simp) ?_;exact sZ
 ·have aP:ps.length≤k:=by simpa using h5
  rw [List.take_of_length_le aP];(conv=>whnf);refine aa.freeze 4 ?_;(conv=>whnf);refine gO Tryz.func96 ?_;exact ⟨rfl,rfl⟩
end Go.Proofs.YtcmnpelmmekdkaaGreatDoor.P
end
section
namespace Go.Proofs.YtcmnpelmmekdkaaGreatDoor.P
open Go Go.ax
set_option maxRecDepth 100000
set_option maxHeartbeats 4000000
theorem XR (z:aU) (q:aS) (cut:Text) (b:Bool) (w n:Text) (hv:∀ s∈z.af,Nm.valid s.set.name=true) (hn:Nm.valid n=true) {i:Nat} {s:Signed} (hi:z.af[i]? = some s):aC E 212 [.cells [.ptr 2 0],.cells [.d (.str n)],.cells [.d (.str z.ab),.d (.sl (z.af.map Signed.enc)),.map 3,.d (.str q.name),.d (.int .i64 q.type),.d (.str cut),.d (.bool b),.d (.str w)],bu z] [.d (.int .i64 i),.ptr 0 0,.ptr 1 0] (fun x h=>x = .d (.bool (!jB n s))∧h=[.cells [.ptr 2 0],.cells [.d (.str n)],.cells [.d (.str z.ab),.d (.sl (z.af.map Signed.enc)),.map 3,.d (.str q.name),.d (.int .i64 q.type),.d (.str cut),.d (.bool b),.d (.str w)],bu z]):=by
 have c1:=OS s.set.name n (hv s (List.mem_of_getElem? hi)) hn;unfold bu;refine aC.run aj (fn:=Tryz.f212) Tryz.func212 (body:=Tryz.f212.body.getD .skip) rfl (by decide) 2000 rfl ?_;(conv=>whnf);refine aa.draw aj bW 13 2000 (by kernel_rfl) ?_;(conv=>whnf);refine aF (e:=s.enc) (a7 hi) rfl ?_;refine gD ?_;refine bg (c1) ?_;refine gD ?_;refine gS ?_;refine gO Tryz.func212 ?_;refine ⟨?_,rfl⟩;refine congrArg (fun b=>AV.d (DV.bool b)) ?_;unfold jB;rw [Bool.eq_iff_iff];simp
theorem XS (z:aU) (q:aS) (cut:Text) (b:Bool) (w n:Text) (hs:fI z.af) (hl:z.af.length≤1000000) (hv:∀ s∈z.af,Nm.valid s.set.name=true) (hn:Nm.valid n=true):aC E 149 [.cells [.ptr 2 0],.cells [.d (.str n)],.cells [.d (.str z.ab),.d (.sl (z.af.map Signed.enc)),.map 3,.d (.str q.name),.d (.int .i64 q.type),.d (.str cut),.d (.bool b),.d (.str w)],bu z] [.d (.int .i64 z.af.length),.fn (.func 212) [] [.ptr 0 0,.ptr 1 0]] (fun x h=>x = .d (.int .i64 (iv (jB n) z.af))∧h=[.cells [.ptr 2 0],.cells [.d (.str n)],.cells [.d (.str z.ab),.d (.sl (z.af.map Signed.enc)),.map 3,.d (.str q.name),.d (.int .i64 q.type),.d (.str cut),.d (.bool b),.d (.str w)],bu z]):=by
 have c1:=fun i s hi=>XR z q cut b w n hv hn (i:=i) (s:=s) hi;have hc:∀ i s,z.af[i]? = some s→(jB n s=true↔i<iv (jB n) z.af):=fun i s hi=>by rw [← le_iff hs hi]; simp [jB]
 have eh:=Aq (P:=jB n) (l:=z.af);generalize iv (jB n) z.af=m at *;unfold bu at *;refine aC.run aj (fn:=Tryz.f149) Tryz.func149 (body:=Tryz.f149.body.getD .skip) rfl (by decide) 2000 rfl ?_;(conv=>whnf);refine aa.loop (κ:=Nat × Nat) [5,6,7,9,10,11,12,13,14,15,16,17,18,19,20,21,22,23,24] (fun k=>[(5,.d (.int .i64 k.1)),(6,.d (.int .i64 k.2))]) (fun _=>[]) (fun k=>k.1≤m∧m≤k.2∧k.2≤z.af.length) (fun k=>k.2 - k.1) (0,z.af.length) ⟨Nat.zero_le _,eh,Nat.le_refl _⟩ ?_ ?_
 ·exact sZ
 rintro ⟨i,j⟩ ⟨k1,k2,k3⟩ IH;simp only at k1 k2 k3;refine aa.head aj Tryz.func149 2000 ?_;(conv=>whnf);refine aw (fun h5=>?_) (fun h5=>?_)
 ·have ai:i<j:=by simpa using h5
  obtain ⟨x,hx⟩:=aY (l:=z.af) (k:=(i+j) / 2) (by omega);have z7:=Oo (i:=i) (j:=j) (by omega);have Au:=hc _ x hx;refine gO Tryz.func149 ?_;refine bQ (by decide) ?_;refine gO Tryz.func149 ?_;rw [show IntKind.i64.wrap (qC .shr .u64 (IntKind.u64.wrap (IntKind.i64.wrap (((i,j).fst:Int)+((i,j).snd:Int)))) (Int.toNat 1))=(((i+j) / 2:Nat):Int) from z7]
  with_reducible refine bR (c1 _ x hx) ?_
  refine gO Tryz.func149 ?_;cases h6:jB n x
  ·have:¬ (i+j) / 2<m:=fun e=>by rw [Au.2 e] at h6; cases h6
   refine aI (by decide) ?_;refine gO Tryz.func149 ?_;refine aa.back (IH (i,(i+j) / 2) ⟨k1,by simp only; omega,by simp only; omega⟩ (by simp only; omega)) ?_;exact sZ
  ·have:=Au.1 h6;refine aM (by decide) ?_;refine gO Tryz.func149 ?_;refine aa.back (IH ((i+j) / 2+1,j) ⟨by simp only; omega,k2,k3⟩ (by simp only; omega)) ?_;exact sZ
 ·have aP:i=m:=by simp at h5; omega
  subst aP;refine gO Tryz.func149 ?_;exact ⟨rfl,rfl⟩
theorem XT (z:aU) (q:aS) (cut:Text) (b:Bool) (w n:Text):aC E 152 [bF z q cut b w,bu z] [.ptr 0 0,.d (.str n)] (fun x h=>x = .fn (.func 211) [] [.ptr 2 0,.ptr 3 0]∧h=[bF z q cut b w,bu z,.cells [.ptr 0 0],.cells [.d (.str n)]]):=by
 unfold bF bu;refine aC.run aj (fn:=Tryz.f152) Tryz.func152 (body:=Tryz.f152.body.getD .skip) rfl (by decide) 2000 rfl ?_;(conv=>whnf);exact ⟨rfl,rfl⟩
theorem XU {P:Nat→Bool} {k:Nat}:pO P (k+1)=if P k then (k:Int) else pO P k:=rfl
theorem XV (z:aU) (q:aS) (cut:Text) (b:Bool) (w n:Text) (hs:fI z.af) (hl:z.af.length≤1000000) (hv:∀ s∈z.af,Nm.valid s.set.name=true) (hn:Nm.valid n=true):aC E 99 [bF z q cut b w,bu z] [.ptr 0 0,.d (.str n)] (fun x h=>x = .d (.int .i64 (eM z.af n))∧h=[bF z q cut b w,bu z,.cells [.ptr 0 0],.cells [.d (.int .i64 (eM z.af n))],.cells [.ptr 0 0],.cells [.d (.str n)]]):=by
 have c1:=XT z q cut b w n;have c2:=XS z q cut b w n hs hl hv hn;have eh:=Aq (P:=jB n) (l:=z.af);unfold eM;generalize iv (jB n) z.af=m at *;unfold bu at c2;unfold bF bu at c1;unfold bF bu;refine aC.run aj (fn:=Tryz.f99) Tryz.func99 (body:=Tryz.f99.body.getD .skip) rfl (by decide) 2000 rfl ?_;conv=>whnf
 with_reducible refine bR (c1) ?_
 refine gO Tryz.func99 ?_;refine aa.rangeFunc (bh rfl) Tryz.func211 rfl (by decide) rfl (fun ll d t=>?_);refine gO Tryz.func211 ?_;rw [show ((z.af.map Signed.enc).length:Int)=(z.af.length:Int) by simp]
 with_reducible refine bR (c2) ?_
 refine gO Tryz.func211 ?_;refine aa.loop (κ:=Nat) ([5]++rg 15 8) (fun k=>[(5,.d (.int .i64 ((k:Int) - 1)))]) (fun k=>[]) (fun k=>k≤m∧pO (xA z.af) m=pO (xA z.af) k) (fun k=>k) m ⟨Nat.le_refl _,rfl⟩ ?_ ?_
 ·exact sZ
 rintro k ⟨hk,nT⟩ IH;refine aa.head aj Tryz.func211 2000 ?_;(conv=>whnf);refine aw (fun h5=>?_) (fun h5=>?_)
 ·have h5:=of_decide_eq_true h5;obtain ⟨k,rfl⟩:∃ j,k=j+1:=⟨k - 1,by omega⟩;obtain ⟨x,hx⟩:=aY (l:=z.af) (k:=k) (by omega);have A1:nK (z.af.map Signed.enc) (((k+1:Nat):Int) - 1) x.enc:=by
   rw [show (((k+1:Nat):Int) - 1)=(k:Int) by omega];exact a7 hx
  have hw:IntKind.i64.wrap ((((k+1:Nat):Int) - 1) - 1)=(k:Int) - 1:=by rw [wrap64 (by omega) (by omega)]; omega
  have iT:xA z.af k=(x.set.type==8):=by simp [xA,hx]
  rw [XU,iT] at nT;refine gO Tryz.func211 ?_;refine aa.yield 0 rfl rfl rfl (bh rfl) (jY (bh rfl)) rfl ?_;(conv=>whnf);refine gO Tryz.func99 ?_;refine aa.begin 0 rfl rfl rfl ?_;(conv=>whnf);refine gO Tryz.func99 ?_;refine aF (e:=x.enc) A1 rfl ?_;refine gO Tryz.func99 ?_;cases ht:(x.set.type==8)
  ·rw [ht] at nT;refine ba ?_;refine gO Tryz.func99 ?_;refine aa.Al 0 rfl rfl rfl ?_;(conv=>whnf);refine gO Tryz.func211 ?_;refine aI (by decide) ?_;refine gO Tryz.func211 ?_;refine aa.back (IH k ⟨by omega,nT⟩ (by omega)) ?_;exact sZ
  ·rw [ht] at nT;refine bq ?_;refine gO Tryz.func99 ?_;refine aa.Xa 0 rfl rfl rfl ?_;(conv=>whnf);refine gO Tryz.func211 ?_;refine aM (by decide) ?_;refine gO Tryz.func211 ?_;refine aa.xy aj Tryz.func211 rfl rfl rfl rfl (fun e=>nomatch e) ?_;(conv=>whnf);refine gO Tryz.func99 ?_;refine aa.Hp aj Tryz.func99 rfl rfl rfl rfl rfl ?_;(conv=>whnf);rw [nT,if_pos rfl,show (((k+1:Nat):Int) - 1)=(k:Int) by omega];exact ⟨rfl,rfl⟩
 ·have aP:k=0:=by have:=of_decide_eq_false h5; omega
  subst aP;refine gO Tryz.func211 ?_;refine aa.xy aj Tryz.func211 rfl rfl rfl rfl (fun e=>nomatch e) ?_;(conv=>whnf);refine gO Tryz.func99 ?_;refine aa.Hp aj Tryz.func99 rfl rfl rfl rfl rfl ?_;(conv=>whnf);rw [nT];exact ⟨rfl,rfl⟩
end Go.Proofs.YtcmnpelmmekdkaaGreatDoor.P
end
