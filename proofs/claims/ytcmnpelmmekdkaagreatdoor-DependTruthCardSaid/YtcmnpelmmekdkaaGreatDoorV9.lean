/- Lemmas of mine. Conditions: as stated. -/
import Derived.Test.YtcmnpelmmekdkaaGreatDoorV8
set_option linter.unusedVariables false
set_option linter.unusedSimpArgs false
section
namespace Go.Proofs.YtcmnpelmmekdkaaGreatDoor.P
open Go Go.aA
set_option maxRecDepth 100000
set_option maxHeartbeats 4000000
theorem Yh(a b:aG):fc a.enc b.enc=decide (a=b):=by
 obtain⟨an,at_⟩:=a;obtain⟨bn,bt⟩:=b;show fc (DV.agg [.str an,.int .i64 at_]) (DV.agg [.str bn,.int .i64 bt])=_;rw[Bool.eq_iff_iff];simp[fc,uC,qU];exact fun _ _=>by decide
def vm(l:List Signed):List (DV × DV):=l.zipIdx.foldl (fun es p=>cx (aG.enc ⟨p.1.set.name,p.1.set.type⟩) (.int .i64 p.2) es) []
theorem Yi(l:List Signed)(x:Signed):vm (l++[x])=cx (aG.enc ⟨x.set.name,x.set.type⟩) (.int .i64 l.length) (vm l):=by
 rw[vm,List.zipIdx_append,List.foldl_append];simp[vm]
theorem Pn{l:List Signed}{k:Nat}{x:Signed}(h:l[k]?=some x):vm (l.take (k+1))=cx (aG.enc ⟨x.set.name,x.set.type⟩) (.int .i64 k) (vm (l.take k)):=by
 have hk:k<l.length:=(List.getElem?_eq_some_iff.1 h).1;rw[ey h,Yi,List.length_take,Nat.min_eq_left (by omega)]
theorem Po(l:List Signed):lQ aG.enc (vm l):=by
 have main:∀ (l:List (Signed × Nat)) (es:List (DV × DV)),lQ aG.enc es->lQ aG.enc (l.foldl (fun es p=>cx (aG.enc ⟨p.1.set.name,p.1.set.type⟩) (.int .i64 p.2) es) es):=by
  intro l
  induction l with
  |nil=>intro es h;exact h
  |cons p l ih=>intro es h;exact ih _ (Dt h)
 exact main _ _ fun p hp=>by simp at hp
theorem Yj{q:aG}{x:Signed}(h:q≠⟨x.set.name,x.set.type⟩):cE q x=false:=by
 cases e:cE q x
 ·rfl
 ·exact absurd (qj e) h
theorem Yk{l:List Signed}{q:aG}{x:Signed}(h:q≠⟨x.set.name,x.set.type⟩):aq (l++[x]) q=aq l q:=by
 unfold aq;rw[List.findIdx?_append];cases e:l.findIdx? (cE q)with
 |some k=>simp
 |none=>simp[List.findIdx?_cons,Yj h]
theorem Pp{q:aG}{l:List Signed}(hs:fj l):∀ (k:Nat),k<=l.length->findD q.enc (vm (l.take k))=if 0<=aq (l.take k) q then some (.int .i64 (aq (l.take k) q))else none
 |0,_=>by simp[vm,findD,aq]
 |k+1,hk=>by
  obtain⟨x,hx⟩:=bd (l:=l) (k:=k) (by omega);have ih:=Pp (q:=q) hs k (by omega);have Yl:fj (l.take (k+1)):=fun i j a b dA ha hb=>by
   rw[List.getElem?_take]at ha hb;split at ha
   case isFalse=>cases ha
   split at hb
   case isFalse=>cases hb
   exact hs i j a b dA ha hb
  rw[Pn hx,Du Yh (Po _)];by_cases e:q=⟨x.set.name,x.set.type⟩
  ·subst e;have:=xZ Yl (k:=k) (x:=x) (by rw[List.getElem?_take,if_pos (by omega)];exact hx);rw[if_pos rfl,this,if_pos (by omega)]
  ·rw[if_neg e,ey hx,Yk e];exact ih
theorem Ym{q:aG}{l:List Signed}(hs:fj l):findD q.enc (vm l)=if 0<=aq l q then some (.int .i64 (aq l q))else none:=by
 have:=Pp (q:=q) hs l.length (Nat.le_refl _)
 rwa [List.take_length]at this
theorem Io(q:aG):eh E.T (.struct [(0,9),(1,3)]) q.enc:=⟨_,rfl,rfl,⟨_,rfl,_,rfl⟩,rfl,⟨_,rfl,_,rfl⟩,trivial⟩
theorem Pq(l:List Signed):∀ p∈vm l,eh E.T (.struct [(0,9),(1,3)]) p.1:=fun p hp=>by
 obtain⟨a,ha⟩:=Po l p hp;rw[ha];exact Io a
def bH(z:aQ)(q:aG)(cut:Text)(b:Bool)(w:Text):af := .cells [.d (.str z.ad),.d (.sl (z.ab.map Signed.enc)),.map 1,.d (.str q.name),.d (.int .i64 q.type),.d (.str cut),.d (.bool b),.d (.str w)]
def bA(z:aQ):af := .map (vm z.ab)
theorem Pr(a b:Text)(ha:Nm.valid a=true)(hb:Nm.valid b=true):az E 151 [.str a,.str b] (· = .int .i64 (bC a b)):=by
 refine eP Tryz.func151 ?_;refine aj (Dd a b ha hb) ?_;refine gO Tryz.func151 ?_
 with_reducible rfl
theorem vQ(a b:Text)(ha:Nm.valid a=true)(hb:Nm.valid b=true):az E 95 [.str a,.str b] (· = .bool (Nm.under a b)):=by
 have c1:=Ab a b (by have:=dF ha;exact mQ (by omega)) (by have:=dF hb;exact mQ (by omega));refine eP Tryz.func95 ?_;refine aj (c1) ?_;refine gO Tryz.func95 ?_;rw[Ax ha hb]
theorem Yn(z:aQ)(q:aG)(hl:z.ab.length<=1000000):aB E 52 [] [.d z.enc,.d q.enc] (fun a b=>a=.ptr 3 0/\b=[.cells [.d (.str z.ad),.d (.sl (z.ab.map Signed.enc))],.cells [.d (.str q.name),.d (.int .i64 q.type)],.map (vm z.ab),.cells [.d (.str z.ad),.d (.sl (z.ab.map Signed.enc)),.map 2,.d (.str q.name),.d (.int .i64 q.type),.d (.str []),.d (.bool false),.d (.str [])]]):=by
 obtain⟨ad,l⟩:=z;obtain⟨qn,qt⟩:=q;show aB E _ [] [.d (DV.agg [.str ad,.sl (l.map Signed.enc)]),.d (DV.agg [.str qn,.int .i64 qt])] _;refine aB.run ag (fn:=Tryz.f52) Tryz.func52 (body:=Tryz.f52.body.getD .skip) rfl (by decide) 2000 rfl ?_;(conv=>whnf);refine aa.tz ag bU [0,1,2,3,4,5,6,8] [] 2000 (by kernel_rfl) ?_;(conv=>whnf);refine aS.run ag 2000 rfl rfl ?_;(conv=>whnf);refine aS.Pm (kt:=54) (et:=3) rfl rfl rfl (by kernel_rfl) (bg rfl) ?_;(conv=>whnf);refine And.intro rfl ?_;(conv=>whnf);refine aS.run ag 2000 rfl rfl ?_;(conv=>whnf);refine And.intro rfl ?_;(conv=>whnf);refine aS.run ag 2000 rfl rfl ?_;(conv=>whnf);refine And.intro rfl ?_;(conv=>whnf);refine aS.run ag 2000 rfl rfl ?_;(conv=>whnf);refine And.intro rfl ?_;(conv=>whnf);refine aS.run ag 2000 rfl rfl ?_;(conv=>whnf);refine gO Tryz.func52 ?_;refine aa.loop (κ:=Nat) ([6,7]++rg 22 18) (fun k=>[(22,.d (.int .i64 k))]) (fun k=>[(2,.map (vm (l.take k)))]) (fun k=>k<=l.length) (fun k=>l.length-k) 0 (Nat.zero_le _) ?_ ?_
 ·(conv=>whnf);repeat (first|exact trivial|(refine sI ?_;conv=>whnf))
  refine And.intro rfl ?_;exact sZ
 intro k hk IH;refine aa.head ag Tryz.func52 2000 ?_;(conv=>whnf);refine ar (fun h5=>?_) (fun h5=>?_)
 ·have ai:k<l.length:=by simpa using h5
  obtain⟨x,hx⟩:=bd ai;have bj:=Pn hx;simp only at hl;refine gO Tryz.func52 ?_;refine aD (e:=x.enc) (aU hx) rfl ?_;refine gO Tryz.func52 ?_;refine aa.draw ag bU 12 2000 (by kernel_rfl) ?_;(conv=>whnf);refine gS ?_;refine bB ⟨Io ⟨x.set.name,x.set.type⟩,Pq _⟩ ?_;refine gS ?_;refine gO Tryz.func52 ?_;refine aa.back (IH (k+1) (by omega) (by omega)) ?_;rw[bj];exact sZ
 ·have aL:l.length<=k:=by simpa using h5
  rw[List.take_of_length_le aL];refine gO Tryz.func52 ?_;exact⟨rfl,rfl⟩
theorem rW(z:aQ)(q:aG)(cut:Text)(b:Bool)(w:Text)(n:Text)(t:Int)(hs:fj z.ab):aB E 94 [bH z q cut b w,bA z] [.ptr 0 0,.d (.str n),.d (.int .i64 t)] (fun x h=>x=.d (.int .i64 (aq z.ab ⟨n,t⟩))/\h=[bH z q cut b w,bA z]):=by
 have hf:=Ym (q:=⟨n,t⟩) hs;have aL : -1<=aq z.ab ⟨n,t⟩:=fX.1;unfold bH bA;refine aB.run ag (fn:=Tryz.f94) Tryz.func94 (body:=Tryz.f94.body.getD .skip) rfl (by decide) 2000 rfl ?_;(conv=>whnf);have dJ:=Pq z.ab;have Ps:=Io ⟨n,t⟩;by_cases h0:0<=aq z.ab ⟨n,t⟩
 ·rw[if_pos h0]at hf;refine jx (.int .i64 0) (.int .i64 0) (v := .int .i64 (aq z.ab ⟨n,t⟩)) (f:=true) Ps dJ (fun w=>by kernel_rfl) (fun _ _ => .int _ _) (by rw[hf];rfl) (by rw[hf];rfl) ?_;refine gO Tryz.func94 ?_;refine bq ?_;refine gO Tryz.func94 ?_;exact⟨rfl,rfl⟩
 ·rw[if_neg h0]at hf;refine jx (.int .i64 0) (.int .i64 0) (v := .int .i64 0) (f:=false) Ps dJ (fun w=>by kernel_rfl) (fun _ _ => .int _ _) (by rw[hf];rfl) (by rw[hf];rfl) ?_;refine gO Tryz.func94 ?_;refine aV ?_;refine gO Tryz.func94 ?_;exact⟨by rw[show aq z.ab ⟨n,t⟩ = -1 by omega],rfl⟩
theorem Ip(z:aQ)(q:aG)(cut:Text)(b:Bool)(w:Text)(hs:fj z.ab):aB E 98 [bH z q cut b w,bA z] [.ptr 0 0] (fun x h=>x=.d (.int .i64 (aq z.ab ⟨z.ad,4⟩))/\h=[bH z q cut b w,bA z]):=by
 have c1:=fun n t=>rW z q cut b w n t hs;unfold bH bA at c1;unfold bH bA;refine aB.run ag (fn:=Tryz.f98) Tryz.func98 (body:=Tryz.f98.body.getD .skip) rfl (by decide) 2000 rfl ?_;conv=>whnf
 with_reducible refine bG (c1 z.ad 4) ?_
 refine gO Tryz.func98 ?_;exact⟨rfl,rfl⟩
theorem Yo(l:List Int)(v:Int)(hl:l.length<=1000000):az E 210 [.sl (l.map (.int .i64)),.int .i64 v] (fun r=>∃ n:Int,r=.int .i64 n/\(0<=n↔v∈l)):=by
 refine eP F210 ?_;refine aa.loop (κ:=Nat) ([4,5]++rg 8 11) (fun k=>[(8,.d (.int .i64 k))]) (fun _=>[]) (fun k=>k<=l.length/\∀ j x,j<k->l[j]?=some x->v≠x) (fun k=>l.length-k) 0 ⟨Nat.zero_le _,fun j x h=>by omega⟩ ?_ ?_
 ·exact sZ
 rintro k ⟨hk,aX⟩ IH;refine aa.head ag F210 2000 ?_;(conv=>whnf);refine ar (fun h5=>?_) (fun h5=>?_)
 ·have ai:k<l.length:=by simpa using h5
  obtain⟨x,hx⟩:=bd ai;refine gO F210 ?_;refine aD (e := .int .i64 x) (aU hx) rfl ?_;refine gO F210 ?_;by_cases e:v=x
  ·refine aJ (by simpa using e) ?_;refine gO F210 ?_;exact⟨k,rfl,fun _=>e ▸ List.mem_of_getElem? hx,fun _=>by omega⟩
  ·refine aP (by simpa using e) ?_;refine gO F210 ?_;refine aa.back (IH (k+1) ⟨by omega,fun j y hj hy=>?_⟩ (by omega)) ?_
   ·rcases Nat.lt_or_eq_of_le (Nat.le_of_lt_succ hj)with h|h
    ·exact aX j y h hy
    ·subst h;rw[hx]at hy;cases hy;exact e
   exact sZ
 ·have aL:k=l.length:=by simp at h5;omega
  subst aL;refine gO F210 ?_;refine⟨-1,rfl,fun h=>absurd h (by decide),fun h=>?_⟩;obtain⟨j,hj⟩:=List.getElem?_of_mem h;exact absurd rfl (aX j v (List.getElem?_eq_some_iff.1 hj).1 hj)
theorem Yp(l:List Int)(v:Int)(hl:l.length<=1000000):az E 146 [.sl (l.map (.int .i64)),.int .i64 v] (· = .bool (decide (v∈l))):=by
 refine eP Tryz.func146 ?_
 with_reducible refine uS (Yo l v hl) ?_
 rintro r ⟨n,rfl,hn⟩;refine gO Tryz.func146 ?_;rw[show decide (n>=0)=decide (v∈l) by rw[Bool.eq_iff_iff,decide_eq_true_eq,decide_eq_true_eq];exact hn]
theorem Yq(z:aQ)(q:aG)(cut:Text)(b:Bool)(w n:Text)(hv:∀ s∈z.ab,Nm.valid s.set.name=true)(hn:Nm.valid n=true){i:Nat}{s:Signed}(hi:z.ab[i]?=some s):aB E 150 [.cells [.ptr 2 0],.cells [.d (.str n)],.cells [.d (.str z.ad),.d (.sl (z.ab.map Signed.enc)),.map 3,.d (.str q.name),.d (.int .i64 q.type),.d (.str cut),.d (.bool b),.d (.str w)],bA z] [.d (.int .i64 i),.ptr 0 0,.ptr 1 0] (fun x h=>x=.d (.bool (!jm n s))/\h=[.cells [.ptr 2 0],.cells [.d (.str n)],.cells [.d (.str z.ad),.d (.sl (z.ab.map Signed.enc)),.map 3,.d (.str q.name),.d (.int .i64 q.type),.d (.str cut),.d (.bool b),.d (.str w)],bA z]):=by
 have c1:=Pr s.set.name n (hv s (List.mem_of_getElem? hi)) hn;unfold bA;refine aB.run ag (fn:=Tryz.f150) Tryz.func150 (body:=Tryz.f150.body.getD .skip) rfl (by decide) 2000 rfl ?_;(conv=>whnf);refine aa.draw ag bU 13 2000 (by kernel_rfl) ?_;(conv=>whnf);refine aD (e:=s.enc) (aU hi) rfl ?_;refine gD ?_;refine bl (c1) ?_;refine gD ?_;refine gS ?_;refine gO Tryz.func150 ?_;refine⟨?_,rfl⟩;refine congrArg (fun b=>AV.d (DV.bool b)) ?_;unfold jm;rw[Bool.eq_iff_iff];simp
theorem Yr(z:aQ)(q:aG)(cut:Text)(b:Bool)(w n:Text)(hs:fj z.ab)(hl:z.ab.length<=1000000)(hv:∀ s∈z.ab,Nm.valid s.set.name=true)(hn:Nm.valid n=true):aB E 149 [.cells [.ptr 2 0],.cells [.d (.str n)],.cells [.d (.str z.ad),.d (.sl (z.ab.map Signed.enc)),.map 3,.d (.str q.name),.d (.int .i64 q.type),.d (.str cut),.d (.bool b),.d (.str w)],bA z] [.d (.int .i64 z.ab.length),.fn (.func 150) [] [.ptr 0 0,.ptr 1 0]] (fun x h=>x=.d (.int .i64 (ig (jm n) z.ab))/\h=[.cells [.ptr 2 0],.cells [.d (.str n)],.cells [.d (.str z.ad),.d (.sl (z.ab.map Signed.enc)),.map 3,.d (.str q.name),.d (.int .i64 q.type),.d (.str cut),.d (.bool b),.d (.str w)],bA z]):=by
 have c1:=fun i s hi=>Yq z q cut b w n hv hn (i:=i) (s:=s) hi;have hc:∀ i s,z.ab[i]?=some s->(jm n s=true↔i<ig (jm n) z.ab):=fun i s hi=>by rw[<- lt_iff hs hi];simp[jm]
 have ez:=x7 (P:=jm n) (l:=z.ab);generalize ig (jm n) z.ab=m at *;unfold bA at *;refine aB.run ag (fn:=Tryz.f149) Tryz.func149 (body:=Tryz.f149.body.getD .skip) rfl (by decide) 2000 rfl ?_;(conv=>whnf);refine aa.loop (κ:=Nat × Nat) [5,6,7,9,10,11,12,13,14,15,16,17,18,19,20,21,22,23,24] (fun k=>[(5,.d (.int .i64 k.1)),(6,.d (.int .i64 k.2))]) (fun _=>[]) (fun k=>k.1<=m/\m<=k.2/\k.2<=z.ab.length) (fun k=>k.2-k.1) (0,z.ab.length) ⟨Nat.zero_le _,ez,Nat.le_refl _⟩ ?_ ?_
 ·exact sZ
 rintro⟨i,j⟩ ⟨k1,k2,k3⟩ IH;simp only at k1 k2 k3;refine aa.head ag F149 2000 ?_;(conv=>whnf);refine ar (fun h5=>?_) (fun h5=>?_)
 ·have ai:i<j:=by simpa using h5
  obtain⟨x,hx⟩:=bd (l:=z.ab) (k:=(i+j) / 2) (by omega);have Av:=OW (i:=i) (j:=j) (by omega);have AQ:=hc _ x hx;refine gO F149 ?_;refine bB (by decide) ?_;refine gO F149 ?_;rw[show IntKind.i64.wrap (qT .shr .u64 (IntKind.u64.wrap (IntKind.i64.wrap (((i,j).fst:Int)+((i,j).snd:Int)))) (Int.toNat 1))=(((i+j) / 2:Nat):Int)from Av]
  with_reducible refine bG (c1 _ x hx) ?_
  refine gO F149 ?_;cases h6:jm n x
  ·have:¬ (i+j) / 2<m:=fun e=>by rw[AQ.2 e]at h6;cases h6
   refine aP (by decide) ?_;refine gO F149 ?_;refine aa.back (IH (i,(i+j) / 2) ⟨k1,by simp only;omega,by simp only;omega⟩ (by simp only;omega)) ?_;exact sZ
  ·have:=AQ.1 h6;refine aJ (by decide) ?_;refine gO F149 ?_;refine aa.back (IH ((i+j) / 2+1,j) ⟨by simp only;omega,k2,k3⟩ (by simp only;omega)) ?_;exact sZ
 ·have aL:i=m:=by simp at h5;omega
  subst aL;refine gO F149 ?_;exact⟨rfl,rfl⟩
theorem Ys(z:aQ)(q:aG)(cut:Text)(b:Bool)(w n:Text)(hs:fj z.ab)(hl:z.ab.length<=1000000)(hv:∀ s∈z.ab,Nm.valid s.set.name=true)(hn:Nm.valid n=true):aB E 97 [bH z q cut b w,bA z] [.ptr 0 0,.d (.str n)] (fun x h=>x=.d (.bool (gG z.ab n))/\h=[bH z q cut b w,bA z,.cells [.ptr 0 0],.cells [.d (.str n)]]):=by
 have c1:=Yr z q cut b w n hs hl hv hn;have hex:=X9 hs (n:=n);have ez:=x7 (P:=jm n) (l:=z.ab);rw[hex];generalize ig (jm n) z.ab=m at *;clear hex;unfold bA at c1;unfold bH bA;refine aB.run ag (fn:=Tryz.f97) Tryz.func97 (body:=Tryz.f97.body.getD .skip) rfl (by decide) 2000 rfl ?_;(conv=>whnf);rw[show((z.ab.map Signed.enc).length:Int)=(z.ab.length:Int) by simp]
 with_reducible refine bG (c1) ?_
 refine gO Tryz.func97 ?_;rcases Nat.lt_or_ge m z.ab.length with h1|h1
 ·obtain⟨x,hx⟩:=bd h1;have c2:=vQ x.set.name n (hv x (List.mem_of_getElem? hx)) hn;rw[hx];refine aa.draw ag bU 21 2000 (by kernel_rfl) ?_;(conv=>whnf);refine aJ (decide_eq_true (by simp;omega)) ?_;refine gD ?_;refine aD (e:=x.enc) (aU hx) rfl ?_;refine gD ?_;refine bl (c2) ?_;refine gD ?_;refine gS ?_;refine gO Tryz.func97 ?_;exact⟨rfl,rfl⟩
 ·rw[List.getElem?_eq_none h1];refine aa.draw ag bU 21 2000 (by kernel_rfl) ?_;(conv=>whnf);refine aP (decide_eq_false (by simp;omega)) ?_;refine gD ?_;refine gS ?_;refine gO Tryz.func97 ?_;exact⟨rfl,rfl⟩
def og(k:Int)(l:List Signed)(c:Text):DV := .agg [.int .i64 k,.sl (l.map Signed.enc),.str c]
theorem Yt{z:aQ}{ps:List Int}{k:Nat}{p:Int}(hp:ps[k]?=some p){s:Signed}(h0:0<=p)(hs:z.ab[p.toNat]?=some s):bN z.ab (b8 (ps.take (k+1)))=if p∈ps.take k then bN z.ab (b8 (ps.take k))else bN z.ab (b8 (ps.take k))++[s]:=by
 rw[OZ hp,O0 h0 hs];have:p∈b8 (ps.take k)↔p∈ps.take k:=by rw[Ig];exact⟨fun h=>h.2,fun h=>⟨h0,h⟩⟩
 by_cases e:p∈ps.take k
 ·rw[if_pos e,if_pos (this.2 e)]
 ·rw[if_neg e,if_neg (fun h=>e (this.1 h))]
theorem Yu{ps:List Int}{k:Nat}{p:Int}(hp:ps[k]?=some p)(h0:p<0):b8 (ps.take (k+1))=b8 (ps.take k):=by
 rw[OZ hp,du,if_pos (.inl h0)]
theorem Yv(z:aQ)(q:aG)(cut:Text)(b:Bool)(w:Text)(kind:Int)(ps:List Int)(hf:z.gV)(eT:∀ p∈ps,p<z.ab.length)(hl:ps.length<=1000):aB E 96 [bH z q cut b w,bA z] [.ptr 0 0,.d (.int .i64 kind),.d (.sl (ps.map (.int .i64)))] (fun x h=>x=.d (og kind (bN z.ab (b8 ps)) [])/\h=[bH z q cut b w,bA z,.cells [.d (.int .i64 kind),.d (.sl ((bN z.ab (b8 ps)).map Signed.enc)),.d (.str [])],.cells [.d (.int .i64 kind),.d (.sl ((bN z.ab (b8 ps)).map Signed.enc)),.d (.str [])],.gone]):=by
 obtain⟨uW,iD⟩:=hf;unfold bH bA og;refine aB.run ag (fn:=Tryz.f96) Tryz.func96 (body:=Tryz.f96.body.getD .skip) rfl (by decide) 2000 rfl ?_;(conv=>whnf);refine aa.tA 3 1 (57,5) (by decide) rfl rfl ?_;(conv=>whnf);refine aa.loop (κ:=Nat) ([8,9,10]++rg 15 38) (fun k=>[(15,.d (.int .i64 k))]) (fun k=>[(3,.cells [.d (.int .i64 kind),.own 4 1,.d (.str [])]),(4,.arr 1 (57,5) ((bN z.ab (b8 (ps.take k))).map Signed.enc))]) (fun k=>k<=ps.length) (fun k=>ps.length-k) 0 (Nat.zero_le _) ?_ ?_
 ·(conv=>whnf);repeat (first|exact trivial|(refine sI ?_;conv=>whnf))
  refine And.intro rfl ?_;exact sZ
 intro k hk IH;refine aa.head ag F96 2000 ?_;(conv=>whnf);refine ar (fun h5=>?_) (fun h5=>?_)
 ·have ai:k<ps.length:=by simpa using h5
  obtain⟨p,hp⟩:=bd ai;refine gO F96 ?_;refine aD (e := .int .i64 p) (aU hp) rfl ?_;refine gO F96 ?_;refine ar (fun h6=>?_) (fun h6=>?_)
  ·have h0:=of_decide_eq_true h6;have bj:=Yu hp h0;refine gO F96 ?_;refine bq ?_;refine gO F96 ?_;refine aa.back (IH (k+1) (by omega) (by omega)) ?_;rw[bj];exact sZ
  ·have h0:=of_decide_eq_false h6;obtain⟨x,hx⟩:=bd (l:=z.ab) (k:=p.toNat) (by have:=eT p (List.mem_of_getElem? hp);omega);have bj:=Yt (z:=z) hp (by omega) hx;have jb:List.drop ((none:Option Int).getD 0).toNat (List.take ((some (k:Int)).getD ((ps.map (DV.int .i64)).length:Int)).toNat (ps.map (DV.int .i64)))=(ps.take k).map (DV.int .i64):=by simp[List.map_take]
   have c1:=Yp (ps.take k) p (by simp;omega);have A1:nb (z.ab.map Signed.enc) p x.enc:=by
    have:=aU (f:=Signed.enc) hx
    rwa [Int.toNat_of_nonneg (by omega)]at this
   have iQ:=vM (l:=z.ab) (ps:=b8 (ps.take k));have ju:=Dq (ps:=ps.take k);obtain⟨q1,q2⟩:=iD x (List.mem_of_getElem? hx);refine gO F96 ?_;refine bB ⟨by simp,by simp,by simp;omega,fun e he=>by obtain⟨y,_,rfl⟩:=List.mem_map.1 he;rfl⟩ ?_;(conv=>whnf);rw[jb];refine gO F96 ?_;refine aj (c1) ?_;refine gO F96 ?_;by_cases dX:p∈ps.take k
   ·rw[if_pos dX]at bj;refine aJ (decide_eq_true dX) ?_;refine gO F96 ?_;refine aa.back (IH (k+1) (by omega) (by omega)) ?_;rw[bj];exact sZ
   ·rw[if_neg dX]at bj;refine aP (decide_eq_false dX) ?_;refine gO F96 ?_;refine aD (e:=x.enc) A1 rfl ?_;refine gO F96 ?_;refine aj (X2 (x.set.data.map Datum.enc) (by simpa using q1) (fun e h=>by obtain⟨d,_,rfl⟩:=List.mem_map.1 h;simp[DV.cells])) ?_;refine gO F96 ?_;refine aj (X3 (x.sigs.map iS.enc) (by simpa using q2) (fun e h=>by obtain⟨d,_,rfl⟩:=List.mem_map.1 h;simp[DV.cells])) ?_;refine gO F96 ?_
    refine bB ⟨by have : (ps.take k).length <= 1000 := by{ rw[List.length_take];omega }
                  simp only[List.length_map, List.length_cons, List.length_nil];omega, by simp[DV.cells]⟩ ?_
    refine gO F96 ?_;refine aa.back (IH (k+1) (by omega) (by omega)) ?_;rw[bj];(conv=>whnf);repeat (first|exact trivial|(refine sI ?_;conv=>whnf))
    refine And.intro (by simp) ?_;exact sZ
 ·have aL:ps.length<=k:=by simpa using h5
  rw[List.take_of_length_le aL];(conv=>whnf);refine aa.freeze 4 ?_;(conv=>whnf);refine gO F96 ?_;exact⟨rfl,rfl⟩
theorem Yx(z:aQ)(q:aG)(cut:Text)(b:Bool)(w n:Text)(hv:∀ s∈z.ab,Nm.valid s.set.name=true)(hn:Nm.valid n=true){i:Nat}{s:Signed}(hi:z.ab[i]?=some s):aB E 212 [.cells [.ptr 2 0],.cells [.d (.str n)],.cells [.d (.str z.ad),.d (.sl (z.ab.map Signed.enc)),.map 3,.d (.str q.name),.d (.int .i64 q.type),.d (.str cut),.d (.bool b),.d (.str w)],bA z] [.d (.int .i64 i),.ptr 0 0,.ptr 1 0] (fun x h=>x=.d (.bool (!iJ n s))/\h=[.cells [.ptr 2 0],.cells [.d (.str n)],.cells [.d (.str z.ad),.d (.sl (z.ab.map Signed.enc)),.map 3,.d (.str q.name),.d (.int .i64 q.type),.d (.str cut),.d (.bool b),.d (.str w)],bA z]):=by
 have c1:=Pr s.set.name n (hv s (List.mem_of_getElem? hi)) hn;unfold bA;refine aB.run ag (fn:=Tryz.f212) Tryz.func212 (body:=Tryz.f212.body.getD .skip) rfl (by decide) 2000 rfl ?_;(conv=>whnf);refine aa.draw ag bU 13 2000 (by kernel_rfl) ?_;(conv=>whnf);refine aD (e:=s.enc) (aU hi) rfl ?_;refine gD ?_;refine bl (c1) ?_;refine gD ?_;refine gS ?_;refine gO Tryz.func212 ?_;refine⟨?_,rfl⟩;refine congrArg (fun b=>AV.d (DV.bool b)) ?_;unfold iJ;rw[Bool.eq_iff_iff];simp
theorem Yy(z:aQ)(q:aG)(cut:Text)(b:Bool)(w n:Text)(hs:fj z.ab)(hl:z.ab.length<=1000000)(hv:∀ s∈z.ab,Nm.valid s.set.name=true)(hn:Nm.valid n=true):aB E 149 [.cells [.ptr 2 0],.cells [.d (.str n)],.cells [.d (.str z.ad),.d (.sl (z.ab.map Signed.enc)),.map 3,.d (.str q.name),.d (.int .i64 q.type),.d (.str cut),.d (.bool b),.d (.str w)],bA z] [.d (.int .i64 z.ab.length),.fn (.func 212) [] [.ptr 0 0,.ptr 1 0]] (fun x h=>x=.d (.int .i64 (ig (iJ n) z.ab))/\h=[.cells [.ptr 2 0],.cells [.d (.str n)],.cells [.d (.str z.ad),.d (.sl (z.ab.map Signed.enc)),.map 3,.d (.str q.name),.d (.int .i64 q.type),.d (.str cut),.d (.bool b),.d (.str w)],bA z]):=by
 have c1:=fun i s hi=>Yx z q cut b w n hv hn (i:=i) (s:=s) hi;have hc:∀ i s,z.ab[i]?=some s->(iJ n s=true↔i<ig (iJ n) z.ab):=fun i s hi=>by rw[<- le_iff hs hi];simp[iJ]
 have ez:=x7 (P:=iJ n) (l:=z.ab);generalize ig (iJ n) z.ab=m at *;unfold bA at *;refine aB.run ag (fn:=Tryz.f149) Tryz.func149 (body:=Tryz.f149.body.getD .skip) rfl (by decide) 2000 rfl ?_;(conv=>whnf);refine aa.loop (κ:=Nat × Nat) [5,6,7,9,10,11,12,13,14,15,16,17,18,19,20,21,22,23,24] (fun k=>[(5,.d (.int .i64 k.1)),(6,.d (.int .i64 k.2))]) (fun _=>[]) (fun k=>k.1<=m/\m<=k.2/\k.2<=z.ab.length) (fun k=>k.2-k.1) (0,z.ab.length) ⟨Nat.zero_le _,ez,Nat.le_refl _⟩ ?_ ?_
 ·exact sZ
 rintro⟨i,j⟩ ⟨k1,k2,k3⟩ IH;simp only at k1 k2 k3;refine aa.head ag F149 2000 ?_;(conv=>whnf);refine ar (fun h5=>?_) (fun h5=>?_)
 ·have ai:i<j:=by simpa using h5
  obtain⟨x,hx⟩:=bd (l:=z.ab) (k:=(i+j) / 2) (by omega);have Av:=OW (i:=i) (j:=j) (by omega);have AQ:=hc _ x hx;refine gO F149 ?_;refine bB (by decide) ?_;refine gO F149 ?_;rw[show IntKind.i64.wrap (qT .shr .u64 (IntKind.u64.wrap (IntKind.i64.wrap (((i,j).fst:Int)+((i,j).snd:Int)))) (Int.toNat 1))=(((i+j) / 2:Nat):Int)from Av]
  with_reducible refine bG (c1 _ x hx) ?_
  refine gO F149 ?_;cases h6:iJ n x
  ·have:¬ (i+j) / 2<m:=fun e=>by rw[AQ.2 e]at h6;cases h6
   refine aP (by decide) ?_;refine gO F149 ?_;refine aa.back (IH (i,(i+j) / 2) ⟨k1,by simp only;omega,by simp only;omega⟩ (by simp only;omega)) ?_;exact sZ
  ·have:=AQ.1 h6;refine aJ (by decide) ?_;refine gO F149 ?_;refine aa.back (IH ((i+j) / 2+1,j) ⟨by simp only;omega,k2,k3⟩ (by simp only;omega)) ?_;exact sZ
 ·have aL:i=m:=by simp at h5;omega
  subst aL;refine gO F149 ?_;exact⟨rfl,rfl⟩
theorem Yz(z:aQ)(q:aG)(cut:Text)(b:Bool)(w n:Text):aB E 152 [bH z q cut b w,bA z] [.ptr 0 0,.d (.str n)] (fun x h=>x=.fn (.func 211) [] [.ptr 2 0,.ptr 3 0]/\h=[bH z q cut b w,bA z,.cells [.ptr 0 0],.cells [.d (.str n)]]):=by
 unfold bH bA;refine aB.run ag (fn:=Tryz.f152) Tryz.func152 (body:=Tryz.f152.body.getD .skip) rfl (by decide) 2000 rfl ?_;(conv=>whnf);exact⟨rfl,rfl⟩
theorem YA{P:Nat->Bool}{k:Nat}:fG P (k+1)=if P k then(k:Int)else fG P k:=rfl
theorem YB(z:aQ)(q:aG)(cut:Text)(b:Bool)(w n:Text)(hs:fj z.ab)(hl:z.ab.length<=1000000)(hv:∀ s∈z.ab,Nm.valid s.set.name=true)(hn:Nm.valid n=true):aB E 99 [bH z q cut b w,bA z] [.ptr 0 0,.d (.str n)] (fun x h=>x=.d (.int .i64 (cJ z.ab n))/\h=[bH z q cut b w,bA z,.cells [.ptr 0 0],.cells [.d (.int .i64 (cJ z.ab n))],.cells [.ptr 0 0],.cells [.d (.str n)]]):=by
 have c1:=Yz z q cut b w n;have c2:=Yy z q cut b w n hs hl hv hn;have ez:=x7 (P:=iJ n) (l:=z.ab);unfold cJ;generalize ig (iJ n) z.ab=m at *;unfold bA at c2;unfold bH bA at c1;unfold bH bA;refine aB.run ag (fn:=Tryz.f99) Tryz.func99 (body:=Tryz.f99.body.getD .skip) rfl (by decide) 2000 rfl ?_;conv=>whnf
 with_reducible refine bG (c1) ?_
 refine gO F99 ?_;refine aa.rangeFunc (bg rfl) Tryz.func211 rfl (by decide) rfl (fun ll d t=>?_);refine gO F211 ?_;rw[show((z.ab.map Signed.enc).length:Int)=(z.ab.length:Int) by simp]
 with_reducible refine bG (c2) ?_
 refine gO F211 ?_;refine aa.loop (κ:=Nat) ([5]++rg 15 8) (fun k=>[(5,.d (.int .i64 ((k:Int)-1)))]) (fun k=>[]) (fun k=>k<=m/\fG (rT z.ab) m=fG (rT z.ab) k) (fun k=>k) m ⟨Nat.le_refl _,rfl⟩ ?_ ?_
 ·exact sZ
 rintro k ⟨hk,oh⟩ IH;refine aa.head ag F211 2000 ?_;(conv=>whnf);refine ar (fun h5=>?_) (fun h5=>?_)
 ·have h5:=of_decide_eq_true h5;obtain⟨k,rfl⟩:∃ j,k=j+1:=⟨k-1,by omega⟩;obtain⟨x,hx⟩:=bd (l:=z.ab) (k:=k) (by omega);have A1:nb (z.ab.map Signed.enc) (((k+1:Nat):Int)-1) x.enc:=by
   rw[show(((k+1:Nat):Int)-1)=(k:Int) by omega];exact aU hx
  have hw:IntKind.i64.wrap ((((k+1:Nat):Int)-1)-1)=(k:Int)-1:=by rw[wrap64 (by omega) (by omega)];omega
  have jg:rT z.ab k=(x.set.type==8):=by simp[rT,hx]
  rw[YA,jg]at oh;refine gO F211 ?_;refine aa.yield 0 rfl rfl rfl (bg rfl) (kv (bg rfl)) rfl ?_;(conv=>whnf);refine gO F99 ?_;refine aa.begin 0 rfl rfl rfl ?_;(conv=>whnf);refine gO F99 ?_;refine aD (e:=x.enc) A1 rfl ?_;refine gO F99 ?_;cases ht:(x.set.type==8)
  ·rw[ht]at oh;refine aV ?_;refine gO F99 ?_;refine aa.AI 0 rfl rfl rfl ?_;(conv=>whnf);refine gO F211 ?_;refine aP (by decide) ?_;refine gO F211 ?_;refine aa.back (IH k ⟨by omega,oh⟩ (by omega)) ?_;exact sZ
  ·rw[ht]at oh;refine bq ?_;refine gO F99 ?_;refine aa.XS 0 rfl rfl rfl ?_;(conv=>whnf);refine gO F211 ?_;refine aJ (by decide) ?_;refine gO F211 ?_;refine aa.xX ag F211 rfl rfl rfl rfl (fun e=>nomatch e) ?_;(conv=>whnf);refine gO F99 ?_;refine aa.H8 ag F99 rfl rfl rfl rfl rfl ?_;(conv=>whnf);rw[oh,if_pos rfl,show(((k+1:Nat):Int)-1)=(k:Int) by omega];exact⟨rfl,rfl⟩
 ·have aL:k=0:=by have:=of_decide_eq_false h5;omega
  subst aL;refine gO F211 ?_;refine aa.xX ag F211 rfl rfl rfl rfl (fun e=>nomatch e) ?_;(conv=>whnf);refine gO F99 ?_;refine aa.H8 ag F99 rfl rfl rfl rfl rfl ?_;(conv=>whnf);rw[oh];exact⟨rfl,rfl⟩
theorem AS(z:aQ)(q:aG)(cut:Text)(b:Bool)(w n:Text)(V:eH z)(hn:Nm.valid n=true):aB E 97 [bH z q cut b w,bA z] [.ptr 0 0,.d (.str n)] (fun x h=>x=.d (.bool (gG z.ab n))/\h=[bH z q cut b w,bA z]) :=
 aB.rX (Ys z q cut b w n V.sorted (by have:=V.len;omega) V.names hn) rfl rfl
theorem vR(z:aQ)(q:aG)(cut:Text)(b:Bool)(w n:Text)(V:eH z)(hn:Nm.valid n=true):aB E 99 [bH z q cut b w,bA z] [.ptr 0 0,.d (.str n)] (fun x h=>x=.d (.int .i64 (cJ z.ab n))/\h=[bH z q cut b w,bA z]) :=
 aB.rX (YB z q cut b w n V.sorted (by have:=V.len;omega) V.names hn) rfl rfl
theorem my(z:aQ)(q:aG)(cut:Text)(b:Bool)(w:Text)(kind:Int)(ps:List Int)(hf:z.gV)(eT:∀ p∈ps,p<z.ab.length)(hl:ps.length<=1000):aB E 96 [bH z q cut b w,bA z] [.ptr 0 0,.d (.int .i64 kind),.d (.sl (ps.map (.int .i64)))] (fun x h=>x=.d (og kind (bN z.ab (b8 ps)) [])/\h=[bH z q cut b w,bA z]) :=
 aB.rX (Yv z q cut b w kind ps hf eT hl) rfl rfl
theorem YC(z:aQ)(q:aG)(cut:Text)(b:Bool)(w:Text)(V:eH z)(hf:z.gV):aB E 54 [bH z q cut b w,bA z] [.ptr 0 0] (fun x h=>x=.aK [.d (og 1 (bN z.ab (b8 [aq z.ab q])) []),.d (.bool (decide (aq z.ab q>=0)))]/\h=[bH z q cut b w,bA z]):=by
 have c1:=rW z q cut b w q.name q.type V.sorted;have c2:=my z q cut b w 1 [aq z.ab q] hf (fun p hp=>by simp at hp;subst hp;exact fX.2) (by simp);simp only[List.map_cons,List.map_nil]at c2;unfold bH bA at c1 c2;apply aB.rX
 case hk=>rfl
 case hc =>
  unfold bH bA;refine aB.run ag (fn:=Tryz.f54) Tryz.func54 (body:=Tryz.f54.body.getD .skip) rfl (by decide) 2000 rfl ?_;(conv=>whnf);refine aa.draw ag bU 13 2000 (by kernel_rfl) ?_;(conv=>whnf);refine cg.kq (ah:=[0,1]) c1 rfl rfl fz (qp (bg rfl) (bg rfl) (bg rfl)) (by decide) (by simp) rfl rfl rfl ?_;refine gD ?_;refine gS ?_;refine gO Tryz.func54 ?_
  with_reducible refine bG (c2) ?_
  refine gO Tryz.func54 ?_;exact⟨rfl,rfl⟩
 case hr=>rfl
theorem YD(z:aQ)(q:aG)(cut:Text)(b:Bool)(w:Text)(V:eH z)(hf:z.gV):aB E 55 [bH z q cut b w,bA z] [.ptr 0 0] (fun x h=>x=.aK [.d (og 3 (bN z.ab (b8 [aq z.ab ⟨q.name,3⟩])) []),.d (.bool (decide (aq z.ab ⟨q.name,3⟩>=0)&&(q.type != 8)))]/\h=[bH z q cut b w,bA z]):=by
 have c1:=rW z q cut b w q.name 3 V.sorted;have ai:=(fX (l:=z.ab) (q:=⟨q.name,3⟩)).2;generalize aq z.ab ⟨q.name,3⟩=i at *;have c2:=my z q cut b w 3 [i] hf (fun p hp=>by simp at hp;subst hp;exact ai) (by simp);simp only[List.map_cons,List.map_nil]at c2;unfold bH bA at c1 c2;apply aB.rX
 case hk=>rfl
 case hc =>
  unfold bH bA;refine aB.run ag (fn:=Tryz.f55) Tryz.func55 (body:=Tryz.f55.body.getD .skip) rfl (by decide) 2000 rfl ?_;conv=>whnf
  with_reducible refine bG (c1) ?_
  refine gO Tryz.func55 ?_;refine aa.tz ag bU [0,1,2,4,5,6,7,8,9,10,11,12,13] [2] 2000 (by kernel_rfl) ?_;(conv=>whnf);refine aS.run ag 2000 rfl rfl ?_;(conv=>whnf);refine oM (c2) ?_;(conv=>whnf);refine And.intro rfl ?_;(conv=>whnf);refine aS.run ag 2000 rfl rfl ?_;(conv=>whnf);by_cases h:i>=0
  ·refine aJ (decide_eq_true h) ?_;(conv=>whnf);refine aS.run ag 2000 rfl rfl ?_;(conv=>whnf);refine And.intro rfl ?_;(conv=>whnf);refine aS.run ag 2000 rfl rfl ?_;(conv=>whnf);refine And.intro rfl ?_;(conv=>whnf);refine aS.run ag 2000 rfl rfl ?_;(conv=>whnf);refine gO Tryz.func55 ?_;rw[decide_eq_true h,Bool.true_and];exact⟨rfl,rfl⟩
  ·refine aP (decide_eq_false h) ?_;(conv=>whnf);refine aS.run ag 2000 rfl rfl ?_;(conv=>whnf);refine And.intro rfl ?_;(conv=>whnf);refine aS.run ag 2000 rfl rfl ?_;(conv=>whnf);refine And.intro rfl ?_;(conv=>whnf);refine aS.run ag 2000 rfl rfl ?_;(conv=>whnf);refine gO Tryz.func55 ?_;rw[decide_eq_false h,Bool.false_and];exact⟨rfl,rfl⟩
 case hr=>rfl
theorem Pu(z:aQ)(q:aG)(cut:Text)(b:Bool)(w:Text)(V:eH z)(hf:z.gV)(hq:Nm.valid q.name=true):aB E 57 [bH z q cut b w,bA z] [.ptr 0 0] (fun x h=>x=.aK [.d (og 2 (bN z.ab (b8 [aq z.ab ⟨w,q.type⟩,cJ z.ab q.name])) []),.d (.bool (decide (aq z.ab ⟨w,q.type⟩>=0)))]/\h=[bH z q cut b w,bA z]):=by
 have c1:=rW z q cut b w w q.type V.sorted;have c3:=vR z q cut b w q.name V hq;have ai:=(fX (l:=z.ab) (q:=⟨w,q.type⟩)).2;have jK:=(tB (l:=z.ab) (n:=q.name)).2;generalize aq z.ab ⟨w,q.type⟩=i at *;generalize cJ z.ab q.name=j at *;have c2:=my z q cut b w 2 [i,j] hf (fun p hp=>by simp at hp;rcases hp with rfl|rfl<;>assumption) (by simp);simp only[List.map_cons,List.map_nil]at c2;unfold bH bA at c1 c2 c3;apply aB.rX
 case hk=>rfl
 case hc =>
  unfold bH bA;refine aB.run ag (fn:=Tryz.f57) Tryz.func57 (body:=Tryz.f57.body.getD .skip) rfl (by decide) 2000 rfl ?_;(conv=>whnf);refine aa.draw ag bU 12 2000 (by kernel_rfl) ?_;(conv=>whnf);refine cg.kq (ah:=[0,1]) c1 rfl rfl fz (qp (bg rfl) (bg rfl) (bg rfl)) (by decide) (by simp) rfl rfl rfl ?_;refine gD ?_;refine gS ?_;refine gO Tryz.func57 ?_
  with_reducible refine bG (c3) ?_
  refine gO Tryz.func57 ?_
  with_reducible refine bG (c2) ?_
  refine gO Tryz.func57 ?_;exact⟨rfl,rfl⟩
 case hr=>rfl
theorem Pv(z:aQ)(q:aG)(cut:Text)(b:Bool)(w:Text)(V:eH z)(hf:z.gV)(hq:Nm.valid q.name=true):aB E 58 [bH z q cut b w,bA z] [.ptr 0 0] (fun x h=>x=.aK [.d (og 3 (bN z.ab (b8 [aq z.ab ⟨w,3⟩,cJ z.ab q.name])) []),.d (.bool (decide (aq z.ab ⟨w,3⟩>=0)&&(q.type != 8)))]/\h=[bH z q cut b w,bA z]):=by
 have c1:=rW z q cut b w w 3 V.sorted;have c3:=vR z q cut b w q.name V hq;have ai:=(fX (l:=z.ab) (q:=⟨w,3⟩)).2;have jK:=(tB (l:=z.ab) (n:=q.name)).2;generalize aq z.ab ⟨w,3⟩=i at *;generalize cJ z.ab q.name=j at *;have c2:=my z q cut b w 3 [i,j] hf (fun p hp=>by simp at hp;rcases hp with rfl|rfl<;>assumption) (by simp);simp only[List.map_cons,List.map_nil]at c2;unfold bH bA at c1 c2 c3;apply aB.rX
 case hk=>rfl
 case hc =>
  unfold bH bA;refine aB.run ag (fn:=Tryz.f58) Tryz.func58 (body:=Tryz.f58.body.getD .skip) rfl (by decide) 2000 rfl ?_;conv=>whnf
  with_reducible refine bG (c1) ?_
  refine gO Tryz.func58 ?_;refine aa.tz ag bU [0,1,2,3,4,5,6,7,9,11,12,13,14,15,16,17,18,19,20] [2] 2000 (by kernel_rfl) ?_;(conv=>whnf);refine aS.run ag 2000 rfl rfl ?_;(conv=>whnf);refine oM (c3) ?_;(conv=>whnf);refine And.intro rfl ?_;(conv=>whnf);refine aS.run ag 2000 rfl rfl ?_;(conv=>whnf);refine oM (c2) ?_;(conv=>whnf);refine And.intro rfl ?_;(conv=>whnf);refine aS.run ag 2000 rfl rfl ?_;(conv=>whnf);by_cases h:i>=0
  ·refine aJ (decide_eq_true h) ?_;(conv=>whnf);refine aS.run ag 2000 rfl rfl ?_;(conv=>whnf);refine And.intro rfl ?_;(conv=>whnf);refine aS.run ag 2000 rfl rfl ?_;(conv=>whnf);refine And.intro rfl ?_;(conv=>whnf);refine aS.run ag 2000 rfl rfl ?_;(conv=>whnf);refine gO Tryz.func58 ?_;rw[decide_eq_true h,Bool.true_and];exact⟨rfl,rfl⟩
  ·refine aP (decide_eq_false h) ?_;(conv=>whnf);refine aS.run ag 2000 rfl rfl ?_;(conv=>whnf);refine And.intro rfl ?_;(conv=>whnf);refine aS.run ag 2000 rfl rfl ?_;(conv=>whnf);refine And.intro rfl ?_;(conv=>whnf);refine aS.run ag 2000 rfl rfl ?_;(conv=>whnf);refine gO Tryz.func58 ?_;rw[decide_eq_false h,Bool.false_and];exact⟨rfl,rfl⟩
 case hr=>rfl
theorem Pw(z:aQ)(q:aG)(cut:Text)(b:Bool)(w:Text)(V:eH z)(hf:z.gV)(hq:Nm.valid q.name=true)(hw:w=[]\/Nm.valid w=true):aB E 60 [bH z q cut b w,bA z] [.ptr 0 0] (fun x h=>x=.d (og 6 (bN z.ab (b8 (if w=[]then[aq z.ab ⟨z.ad,4⟩,cJ z.ab q.name,-1]else[aq z.ab ⟨z.ad,4⟩,cJ z.ab q.name,cJ z.ab w]))) [])/\h=[bH z q cut b w,bA z]):=by
 have c1:=Ip z q cut b w V.sorted;have c3:=vR z q cut b w q.name V hq;have ai:=(fX (l:=z.ab) (q:=⟨z.ad,4⟩)).2;have jK:=(tB (l:=z.ab) (n:=q.name)).2;have YE:=(tB (l:=z.ab) (n:=w)).2;generalize aq z.ab ⟨z.ad,4⟩=i at *;by_cases he:w=[]
 ·rw[if_pos he];generalize cJ z.ab q.name=j at *;have c2:=my z q cut b w 6 [i,j,-1] hf (fun p hp=>by simp at hp;rcases hp with rfl|rfl|rfl<;>first|assumption|omega) (by simp);simp only[List.map_cons,List.map_nil]at c2;unfold bH bA at c1 c2 c3;apply aB.rX
  case hk=>rfl
  case hc =>
   unfold bH bA;refine aB.run ag (fn:=Tryz.f60) Tryz.func60 (body:=Tryz.f60.body.getD .skip) rfl (by decide) 2000 rfl ?_;(conv=>whnf);refine aP (by simp[he]) ?_;refine gO Tryz.func60 ?_;refine aa.draw ag bU 13 2000 (by kernel_rfl) ?_;(conv=>whnf);refine cg.kq (ah:=[0,1]) c1 rfl rfl fz (kv (bg rfl)) (by decide) (by simp) rfl rfl rfl ?_;refine gD ?_;refine cg.kq (ah:=[0,1]) c3 rfl rfl fz (mw (bg rfl) (bg rfl)) (by decide) (by simp) rfl rfl rfl ?_;refine gD ?_;refine cg.kq (ah:=[0,1]) c2 rfl rfl fz (qp (bg rfl) qo (bg rfl)) (by decide) (by simp) rfl rfl rfl ?_;refine gD ?_;refine gS ?_;refine gO Tryz.func60 ?_;exact⟨rfl,rfl⟩
  case hr=>rfl
 ·have c4:=vR z q cut b w w V (hw.resolve_left he);rw[if_neg he];generalize cJ z.ab q.name=j at *;generalize cJ z.ab w=m at *;have c2:=my z q cut b w 6 [i,j,m] hf (fun p hp=>by simp at hp;rcases hp with rfl|rfl|rfl<;>assumption) (by simp);simp only[List.map_cons,List.map_nil]at c2;unfold bH bA at c1 c2 c3 c4;apply aB.rX
  case hk=>rfl
  case hc =>
   unfold bH bA;refine aB.run ag (fn:=Tryz.f60) Tryz.func60 (body:=Tryz.f60.body.getD .skip) rfl (by decide) 2000 rfl ?_;(conv=>whnf);refine aJ (by simp[he]) ?_;refine gO Tryz.func60 ?_
   with_reducible refine bG (c4) ?_
   refine gO Tryz.func60 ?_;refine aa.draw ag bU 13 2000 (by kernel_rfl) ?_;(conv=>whnf);refine cg.kq (ah:=[0,1]) c1 rfl rfl fz (kv (bg rfl)) (by decide) (by simp) rfl rfl rfl ?_;refine gD ?_;refine cg.kq (ah:=[0,1]) c3 rfl rfl fz (mw (bg rfl) (bg rfl)) (by decide) (by simp) rfl rfl rfl ?_;refine gD ?_;refine cg.kq (ah:=[0,1]) c2 rfl rfl fz (qp (bg rfl) qo (bg rfl)) (by decide) (by simp) rfl rfl rfl ?_;refine gD ?_;refine gS ?_;refine gO Tryz.func60 ?_;exact⟨rfl,rfl⟩
  case hr=>rfl
end Go.Proofs.YtcmnpelmmekdkaaGreatDoor.P
end
section
namespace Go.Proofs.YtcmnpelmmekdkaaGreatDoor.P
open Go Go.aA Go.RowKit
set_option maxRecDepth 100000
set_option maxHeartbeats 4000000
theorem Py{ak:Nat->Prop}{w:World}{x y:DV}{vs:List Value}(h:jY ak w [x,y] vs):∃ u v,vs=[u,v]/\VD ak w x u/\VD ak w y v:=by
 obtain⟨hl,hv⟩:=h;obtain⟨u,v,rfl⟩:∃ u v,vs=[u,v]:=by
  match vs,hl with
  |[u,v],_=>exact⟨u,v,rfl⟩
 exact⟨u,v,rfl,hv 0 x u rfl rfl,hv 1 y v rfl rfl⟩
theorem YH{w w':World}(h:Below w.heap.size w w'):Ext w w':=⟨h.os,h.tape,h.output,h.size,h.block⟩
theorem YI(t:Text)(c:UInt8):az E 142 [.str t,.int .u8 c.toNat] (· = .int .i64 (Lib.indexByte t c)):=by
 unfold az;refine⟨⟨_,Tryz.func142,rfl,by decide⟩,fun ak w vs _ _ hv=>?_⟩;obtain⟨u,v,rfl,h1,h2⟩:=Py hv;cases h1;cases h2;have:=Any.strings_IndexByte Tryz.YG ⟨t.toArray⟩ (c.toNat:Int) w;refine this.mono fun e w' ⟨h1,h2⟩=>⟨_,_,h1,rfl,?_,by rw[h2];exact Ext.refl w⟩;rw[show(ByteArray.mk t.toArray).data.toList=t by simp,show((c.toNat:Int)).toNat.toUInt8=c by simp];exact .int _ _
theorem Ir:∀ (L:List Text),Lib.join L [46]=Nm.glue L
 |[]=>rfl
 |[x]=>by simp[Lib.join,List.intercalate,Nm.glue]
 |x::y::t=>by
  have:=Ir (y::t);unfold Lib.join at this ⊢;rw[Nm.glue,<- this];simp[List.intercalate]
theorem YJ(L:List Text)(hl:L.length<=1000)(hb:(Nm.glue L).length<=1000000):az E 213 [.sl (L.map .str),.str [46]] (· = .str (Nm.glue L)):=by
 unfold az;refine⟨⟨_,Tryz.func213,rfl,by decide⟩,fun ak w vs _ _ hv=>?_⟩;obtain⟨u,v,rfl,h1,h2⟩:=Py hv;cases h2;have tE:(L.map fun x=>ByteArray.mk x.toArray).map (·.data.toList)=L:=by simp[Function.comp_def]
 have fin:∀ e w',(e=Ending.returned (.string ⟨(Lib.join ((L.map fun x=>ByteArray.mk x.toArray).map (·.data.toList)) (ByteArray.mk [46].toArray).data.toList).toArray⟩)/\Below w.heap.size w w')->∃ v r,e=.returned v/\r=DV.str (Nm.glue L)/\VD (fun b=>ak b) w' r v/\Ext w w':=fun e w' ⟨h1,h2⟩=>by
  refine⟨_,_,h1,rfl,?_,YH h2⟩;rw[tE,show(ByteArray.mk [46].toArray).data.toList=[46] by simp,Ir];exact .str _
 generalize hD:L.map DV.str=D at h1;cases h1 with
 |slnil =>
  have hn:L=[]:=List.map_eq_nil_iff.1 hD;subst hn;exact(Any.strings_Join_none Tryz.Dw Tryz.Dx none 0 ⟨#[46]⟩ w).mono fun e w' ⟨q1,q2⟩=>fin e w' ⟨q1,q2 ▸ Below.refl _ _⟩
 |lg a =>
  have hn:L=[]:=List.map_eq_nil_iff.1 hD;subst hn;exact(Any.strings_Join_none Tryz.Dw Tryz.Dx (some a) 0 ⟨#[46]⟩ w).mono fun e w' ⟨q1,q2⟩=>fin e w' ⟨q1,q2 ▸ Below.refl _ _⟩
 |sl _ blk off cap sz f tC bT jo hlen dQ bQ cj =>
  subst hD;by_cases hn:L=[]
  ·subst hn;exact(Any.strings_Join_none Tryz.Dw Tryz.Dx (some ⟨blk,off,none⟩) cap ⟨#[46]⟩ w).mono fun e w' ⟨q1,q2⟩=>fin e w' ⟨q1,q2 ▸ Below.refl _ _⟩
  ·have wD:∀ (j:Nat) x,(L.map fun x=>ByteArray.mk x.toArray)[j]?=some x->w.cell? ⟨blk,off+j,none⟩=some (.string x):=fun j x hx=>by
    rw[List.getElem?_map]at hx;cases e:L[j]? with
    |none=>rw[e]at hx;cases hx
    |some t =>
     rw[e]at hx;cases hx;have e1:(L.map DV.str)[j]?=some (.str t):=by rw[List.getElem?_map,e];rfl
     have uW:sz=1:=(hlen j _ e1).symm;have c1:=dQ j 0 (.str t) (.str t) e1 rfl;have v1:=bQ j 0 (.str t) (.str t) e1 rfl;rw[uW,Nat.mul_one,Nat.add_zero]at c1;rw[c1];generalize f j 0=u at v1;cases v1;rfl
   obtain⟨t,r,rfl⟩:=List.exists_cons_of_ne_nil hn;have YK:blk<w.heap.size:=World.block_lt_of_cell? _ _ (wD 0 ⟨t.toArray⟩ rfl);have:=Any.strings_Join Tryz.Dw Tryz.Dx blk off cap ((t::r).map fun x=>ByteArray.mk x.toArray) ⟨#[46]⟩ w wD YK (by simp at hl ⊢;omega) (by simpa using jo) (by rw[tE,show(ByteArray.mk [46].toArray).data.toList=[46] by simp,Ir];omega);rw[List.length_map]at this;rw[List.length_map];exact this.mono fun e w' h=>fin e w' h
theorem YL(t:Text):az E 112 [.str t] (· = .bool (Nm.label t)):=by
 unfold az;refine⟨⟨_,Tryz.func112,rfl,by decide⟩,fun ak w vs _ _ hv=>?_⟩;obtain⟨hl,hv⟩:=hv;obtain⟨u,rfl⟩:∃ u,vs=[u]:=by
  match vs,hl with
  |[u],_=>exact⟨u,rfl⟩
 have h1:=hv 0 (.str t) u rfl rfl;cases h1;refine(GJ ⟨t.toArray⟩ w).mono fun e w' ⟨h1,h2⟩=>⟨_,_,h1,rfl,?_,by rw[h2];exact Ext.refl _⟩;rw[ki];exact .bool _
theorem YM(t:Text)(ht:t.length<=maxLen):az E 72 [.str t] (· = .bool (Nm.valid t)) :=
 z7 (g:=fun t => .bool (Nm.valid t)) t ⟨_,Tryz.func72,rfl,by decide⟩ fun w=>(iG ⟨t.toArray⟩ w (size_mk ht)).mono fun e w' ⟨h1,h2⟩=>⟨_,h1,fun _ _=>by rw[ki];exact .bool _,h2⟩
def gH(i:Nat)(x:Text):Bool:=Nm.label x||(decide (i=0)&&decide (x=[42]))
theorem mX{L:List Text}:Nm.parts L=true↔L.length<=8/\∀ i x,L[i]?=some x->gH i x=true:=by
 cases L with
 |nil=>simp[Nm.parts]
 |cons a r =>
  simp only[Nm.parts,Bool.and_eq_true,decide_eq_true_eq,List.all_eq_true];constructor
  ·rintro⟨h1,h2,h3⟩;refine⟨h1,fun i x hx=>?_⟩;cases i with
   |zero=>simp at hx;subst hx;simpa [gH]using h2
   |succ i=>simp at hx;simp[gH,h3 x (List.mem_of_getElem? hx)]
  ·rintro⟨h1,h2⟩;refine⟨h1,by simpa [gH]using h2 0 a rfl,fun x hx=>?_⟩;obtain⟨i,hi⟩:=List.getElem?_of_mem hx
   simpa [gH]using h2 (i+1) x (by simpa using hi)
theorem Is:∀ {L:List Text},(∀ t∈L,t.length<=100)->(Nm.glue L).length<=L.length*101
 |[],_=>by simp[Nm.glue]
 |[x],h=>by have:=h x (by simp);simp[Nm.glue];omega
 |x::y::t,h=>by
  have h1:=h x (by simp);have h2:=Is (L:=y::t) fun u hu=>h u (List.mem_cons_of_mem _ hu);rw[Nm.glue];simp only[List.length_append,List.length_cons]at h2 ⊢;omega
theorem YN(L:List Text)(hl:L.length<=1000)(hb:∀ t∈L,t.length<=100):az E 154 [.sl (L.map .str)] (· = match jO L with|some t => .aK [.str t,.int .i64 0]|none => .aK [.str [],.int .i64 11]):=by
 have no:Nm.parts L=false->jO L=none:=fun e=>by rw[jO,e];rfl
 have c2:=fun h=>YJ L hl h;refine eP F154 ?_;by_cases h0:L=[]
 ·subst h0;have e:jO []=some [46]:=by decide
  rw[e];refine aJ (by decide) ?_;refine gO F154 ?_
  with_reducible rfl
 refine aP (by simpa using h0) ?_;refine gO F154 ?_;refine ar (fun h1=>?_) (fun h1=>?_)
 ·have h1:=of_decide_eq_true h1
  rw[no (by
   cases e:Nm.parts L
   ·rfl
   ·have:=(mX.1 e).1;simp at h1
    omega)]
  refine gO F154 ?_
  with_reducible rfl
 have YO:L.length<=8:=by have:=of_decide_eq_false h1;simp at this;omega
 refine gO F154 ?_;refine aa.loop (κ:=Nat) (rg 2 4++rg 15 17) (fun k=>[(15,.d (.int .i64 k))]) (fun _=>[]) (fun k=>k<=L.length/\∀ i x,i<k->L[i]?=some x->gH i x=true) (fun k=>L.length-k) 0 ⟨Nat.zero_le _,fun i x h=>by omega⟩ ?_ ?_
 ·exact sZ
 rintro k ⟨hk,aX⟩ IH;refine aa.head ag F154 2000 ?_;(conv=>whnf);refine ar (fun h5=>?_) (fun h5=>?_)
 ·have ai:k<L.length:=by simpa using h5
  obtain⟨x,hx⟩:=bd ai
  have bad:gH k x=false->jO L=none:=fun e=>no (by
   cases e2:Nm.parts L
   ·rfl
   ·have:=(mX.1 e2).2 k x hx
    rw[e]at this;cases this)
  have good:gH k x=true->∀ i y,i<k+1->L[i]?=some y->gH i y=true:=fun e i y hi hy=>by
   rcases Nat.lt_or_eq_of_le (Nat.le_of_lt_succ hi)with h|h
   ·exact aX i y h hy
   ·subst h;rw[hx]at hy;cases hy;exact e
  refine gO F154 ?_;refine aD (e := .str x) (aU hx) rfl ?_;refine gO F154 ?_;refine aj (YL x) ?_;refine gO F154 ?_;cases mi:Nm.label x
  ·refine bq ?_;refine gO F154 ?_;refine ar (fun h6=>?_) (fun h6=>?_)
   ·have h6:=of_decide_eq_true h6;refine gO F154 ?_;refine bq ?_;refine gO F154 ?_;rw[bad (by simp[gH,mi];omega)]
   ·have h6:=of_decide_eq_false h6;refine gO F154 ?_;by_cases h7:x=[42]
    ·refine aP (by simpa using h7) ?_;refine gO F154 ?_;refine aa.back (IH (k+1) ⟨by omega,good (by simp[gH,h7];omega)⟩ (by omega)) ?_;exact sZ
    ·refine aJ (by simpa using h7) ?_;refine gO F154 ?_;rw[bad (by simp[gH,mi,h7])]
  ·refine aV ?_;refine gO F154 ?_;refine aV ?_;refine gO F154 ?_;refine aa.back (IH (k+1) ⟨by omega,good (by simp[gH,mi])⟩ (by omega)) ?_;exact sZ
 ·have aL:k=L.length:=by simp at h5;omega
  subst aL;have hp:Nm.parts L=true:=mX.2 ⟨YO,fun i x hx=>aX i x (List.getElem?_eq_some_iff.1 hx).1 hx⟩;have nJ:fN L=Nm.glue L:=by rw[fN,if_neg h0]
  have iQ:=Is hb;have c2:=c2 (by omega);clear IH;unfold jO;rw[hp,nJ,Bool.true_and];refine gO F154 ?_;refine aj (c2) ?_;refine gO F154 ?_;refine ar (fun h6=>?_) (fun h6=>?_)
  ·have h6:=of_decide_eq_true h6;refine gO F154 ?_;rw[decide_eq_false (by omega)];rfl
  ·have h6:=of_decide_eq_false h6;refine gO F154 ?_;rw[decide_eq_true (by omega)];rfl
theorem Pz:∀ (t:Text),(∀ r,Nm.split t=[r]->Lib.indexByte t 46 = -1/\t=r)/\∀ x y r,Nm.split t=x::y::r->∃ n:Nat,Lib.indexByte t 46=n/\t.drop (n+1)=Nm.glue (y::r)/\n+1<=t.length
 |[]=>by simp[Nm.split,Lib.indexByte]
 |c::t=>by
  obtain⟨h1,h2⟩:=Pz t;by_cases hc:c=46
  ·subst hc;have e:Nm.split (46::t)=[]::Nm.split t:=by simp[Nm.split]
   have e2:Lib.indexByte (46::t) 46=0:=by simp[Lib.indexByte]
   rw[e,e2];refine⟨fun r hr=>?_,fun x y r hr=>?_⟩
   ·have:=Nm.nR t;simp at hr;exact absurd hr.2 this
   ·simp only[List.cons.injEq]at hr;refine⟨0,rfl,?_,by simp⟩;rw[<- hr.2,Nm.vp];rfl
  ·have e2:Lib.indexByte (c::t) 46=if Lib.indexByte t 46 = -1 then -1 else Lib.indexByte t 46+1:=by
    rw[Lib.indexByte,if_neg (by simpa using hc)];simp
   cases hs:Nm.split t with
   |nil=>exact absurd hs (Nm.nR t)
   |cons h r0 =>
    have e:Nm.split (c::t)=(c::h)::r0:=by simp[Nm.split,hc,hs]
    rw[e,e2];refine⟨fun r hr=>?_,fun x y r hr=>?_⟩
    ·simp only[List.cons.injEq]at hr;obtain⟨rfl,rfl⟩:=hr;obtain⟨k1,k2⟩:=h1 h hs;rw[if_pos k1];exact⟨rfl,by rw[k2]⟩
    ·simp only[List.cons.injEq]at hr;obtain⟨rfl,rfl⟩:=hr;obtain⟨n,k1,k2,k3⟩:=h2 h y r hs;rw[if_neg (by omega)];exact⟨n+1,by omega,by simpa using k2,by simp;omega⟩
theorem PA(t:Text)(hv:Nm.valid t=true)(hr:t≠[46]):az E 92 [.str t] (· = .aK [.str (fN (Nm.labels t).tail),.int .i64 0]):=by
 have hlen:=dF hv;have c1:=YM t (mQ (by omega));rw[hv]at c1;have c2:=YI t 46;have mu:Nm.labels t=Nm.split t:=by rw[Nm.labels,if_neg hr]
 obtain⟨h1,h2⟩:=Pz t;rw[mu];refine eP F92 ?_;refine aj (c1) ?_;refine gO F92 ?_;refine aV ?_;refine gO F92 ?_;refine aP (by simpa using hr) ?_;refine gO F92 ?_;refine aj (c2) ?_;refine gO F92 ?_;cases hs:Nm.split t with
 |nil=>exact absurd hs (Nm.nR t)
 |cons x r =>
  cases r with
  |nil =>
   obtain⟨k1,k2⟩:=h1 x hs;refine aP (by rw[k1];decide) ?_;refine gO F92 ?_;rfl
  |cons y r =>
   obtain⟨n,k1,k2,k3⟩:=h2 x y r hs;have hw:IntKind.i64.wrap (Lib.indexByte t 46+1)=((n+1:Nat):Int):=by rw[k1,wrap64 (by omega) (by omega)];omega
   have hd:List.drop ((some (IntKind.i64.wrap (Lib.indexByte t 46+1))).getD 0).toNat (List.take ((none:Option Int).getD (t.length:Int)).toNat t)=fN (y::r):=by
    rw[hw]
    simpa [fN]using k2
   refine aJ (by rw[k1];simp) ?_;refine gO F92 ?_;refine bB ⟨by rw[hw];simp;omega,by rw[hw];simp;omega,by simp⟩ ?_;(conv=>whnf);rw[hd];refine gO F92 ?_;rfl
end Go.Proofs.YtcmnpelmmekdkaaGreatDoor.P
end
section
namespace Go.Proofs.YtcmnpelmmekdkaaGreatDoor.P
open Go Go.aA
set_option maxRecDepth 100000
set_option maxHeartbeats 4000000
theorem PB:Nm.labels [46]=[]:=rfl
theorem It{t:Text}(h:Nm.labels t=[]):t=[46]:=by rw[<- rU t,h];rfl
theorem An{s t:Text}(h:Nm.labels s=Nm.labels t):s=t:=by rw[<- rU s,h,rU]
theorem Iu{t:Text}(h:t≠[46]):Nm.labels t≠[]:=fun e=>h (It e)
theorem PC{t:Text}(hv:Nm.valid t=true)(hr:t≠[46]):t.length<=60/\Nm.parts (Nm.split t)=true:=by
 simpa [Nm.valid,hr]using hv
theorem rY{t:Text}(hv:Nm.valid t=true)(hr:t≠[46]):Nm.valid (fN (Nm.labels t).tail)=true/\Nm.labels (fN (Nm.labels t).tail)=(Nm.labels t).tail:=by
 obtain⟨h1,h2⟩:=PC hv hr;have hd:=Nm.LS t;have hg:=Nm.vp t;rw[Nm.labels,if_neg hr];generalize Nm.split t=L at *;cases L with
 |nil=>exact⟨rfl,rfl⟩
 |cons x r =>
  cases r with
  |nil=>exact⟨rfl,rfl⟩
  |cons y r =>
   have e:fN (y::r)=Nm.glue (y::r):=by simp[fN]
   have hs:Nm.split (Nm.glue (y::r))=y::r:=Nm.LU _ (by simp) fun u hu=>hd u (List.mem_cons_of_mem _ hu);obtain⟨p1,p2⟩:=mX.1 h2;have hy:Nm.label y=true:=by simpa [gH]using p2 1 y rfl
   have aM:Nm.glue (y::r)≠[46]:=fun e=>by
    rw[e]at hs;have e2:Nm.split [46]=[[],[]]:=by decide
    rw[e2]at hs;cases hs;exact absurd hy (by decide)
   have hl:(Nm.glue (y::r)).length<=60:=by
    rw[<- hg,Nm.glue]at h1;simp only[List.length_append,List.length_cons]at h1;omega
   show Nm.valid (fN (y::r))=true/\Nm.labels (fN (y::r))=y::r;rw[e];refine⟨?_,by rw[Nm.labels,if_neg aM,hs]⟩
   have hp:Nm.parts (y::r)=true:=mX.2 ⟨by simp at p1 ⊢;omega,fun i u hu=>by
    have:=p2 (i+1) u (by simpa using hu);simp[gH]at this
    simp[gH,this]⟩
   simp[Nm.valid,aM,hs,hp,hl]
theorem YP(a:Text):Nm.under a a=true:=by simp[Nm.under]
theorem YQ{a b c:Text}(h:Nm.under a b=true)(k:Nm.under b c=true):Nm.under a c=true:=by
 simp only[Nm.under,decide_eq_true_eq]at *;exact k.trans h
theorem YR{a b:Text}(h:Nm.under a b=true)(k:Nm.under b a=true):a=b:=by
 simp only[Nm.under,decide_eq_true_eq]at *;exact An (k.eq_of_length (Nat.le_antisymm k.length_le h.length_le))
theorem Iv{a:Text}(h:Nm.under [46] a=true):a=[46]:=by
 simp only[Nm.under,decide_eq_true_eq,PB,List.suffix_nil]at h;exact It h
theorem Dy{n d:Text}(hv:Nm.valid n=true)(hr:n≠[46])(h:Nm.under n d=true)(aM:n≠d):Nm.under (fN (Nm.labels n).tail) d=true:=by
 simp only[Nm.under,decide_eq_true_eq]at *;rw[(rY hv hr).2];cases e:Nm.labels n with
 |nil=>exact absurd (It e) hr
 |cons x r =>
  rw[e]at h;rcases List.suffix_cons_iff.1 h with k|k
  ·exact absurd (An (e.trans k.symm)) aM
  ·exact k
theorem YS{n:Text}(hv:Nm.valid n=true)(hr:n≠[46]):Nm.under n (fN (Nm.labels n).tail)=true:=by
 simp only[Nm.under,decide_eq_true_eq];rw[(rY hv hr).2];exact List.tail_suffix _
theorem Iw{n:Text}(hv:Nm.valid n=true)(hr:n≠[46]):(Nm.labels (fN (Nm.labels n).tail)).length<(Nm.labels n).length:=by
 rw[(rY hv hr).2,List.length_tail];have:=List.length_pos_iff.2 (Iu hr);omega
theorem YT{z:aQ}{c:Text}(h1:z.ab.any (cE ⟨c,2⟩)=true)(h2:c≠z.ad):c∈bO z.ad z.ab:=by
 obtain⟨s,hs,h⟩:=List.any_eq_true.1 h1;simp only[cE,Bool.and_eq_true,beq_iff_eq]at h;unfold bO;exact List.mem_map.2 ⟨s,List.mem_filter.2 ⟨hs,by simp[iH,h.1,h.2,h2]⟩,h.1⟩
theorem Iy{z:aQ}{c:Text}(h:c∈bO z.ad z.ab):z.ab.any (cE ⟨c,2⟩)=true/\c≠z.ad:=by
 obtain⟨s,hs,rfl,hc⟩:=nZ h;simp[iH]at hc;exact⟨List.any_eq_true.2 ⟨s,hs,by simp[cE,hc.1]⟩,hc.2⟩
theorem YU{z:aQ}(V:eH z){n c:Text}(h:c∈bO z.ad z.ab)(hu:Nm.under n c=true):gW z n=some c:=by
 unfold gW;cases e:(bO z.ad z.ab).find? fun d=>Nm.under n d with
 |none=>exact absurd hu (by simpa using List.find?_eq_none.1 e c h)
 |some d=>rw[V.db d (List.mem_of_find?_eq_some e) c h n (by simpa using List.find?_some e) hu]
theorem YV{z:aQ}(V:eH z){n:Text}(h:∀ d∈bO z.ad z.ab,Nm.under n d=true->Nm.under z.ad d=true):gW z n=none:=by
 unfold gW;rw[List.find?_eq_none];intro d hd hu;obtain⟨s,hs,rfl,hc⟩:=nZ hd;exact(Iy hd).2 (YR (V.under s hs) (h _ hd (by simpa using hu)))
def Iz(z:aQ)(n:Text):DV:=if Nm.valid n&&eF z then(if Nm.under n z.ad then(match gW z n with|some c => .aK [.str c,.bool true,.int .i64 0]|none => .aK [.str [],.bool false,.int .i64 0])else .aK [.str [],.bool false,.int .i64 20])else .aK [.str [],.bool false,.int .i64 1]
theorem YW(z:aQ)(n:Text)(hf:z.Fits)(hn:n.length<=maxLen):az E 51 [z.enc,.str n] (· = Iz z n):=by
 have c1:=lL n hn;have c2:=Hv z hf;unfold Iz;cases h1:Nm.valid n
 ·rw[h1]at c1;refine eP F51 ?_;repeat' (first|with_reducible(first|refine aj (c1) ?_|refine bl (c1) ?_|refine cY ?_|refine cN ?_|refine ar (fun _=>?_) (fun _=>?_))|refine gA F51 ?_|refine gB ?_|refine gC ?_|with_reducible rfl)
  all_goals rfl
 cases h2:eF z
 ·rw[h1]at c1;rw[h2]at c2;refine eP F51 ?_;repeat' (first|with_reducible(first|refine aj (c1) ?_|refine bl (c1) ?_|refine aj (c2) ?_|refine bl (c2) ?_|refine cY ?_|refine cN ?_|refine ar (fun _=>?_) (fun _=>?_))|refine gA F51 ?_|refine gB ?_|refine gC ?_|with_reducible rfl)
  all_goals rfl
 rw[h1]at c1;rw[h2]at c2;have V:=kY h2;have c3:=Ab n z.ad hn (by have:=dF V.ad;exact mQ (by omega));rw[Ax h1 V.ad,h1,V.ad]at c3;have hlen:=V.len;refine eP F51 ?_;refine aj (c1) ?_;refine gO F51 ?_;refine aV ?_;refine gO F51 ?_;refine aj (c2) ?_;refine gO F51 ?_;refine aV ?_;refine gO F51 ?_;refine aj (c3) ?_;refine gO F51 ?_;cases h3:Nm.under n z.ad
 ·refine bq ?_;refine gO F51 ?_;rfl
 refine aV ?_;refine gO F51 ?_;refine aa.loop (κ:=Text) ([4,5,6,10,11,12]++rg 33 18) (fun c=>[(10,.d (.str c))]) (fun _=>[]) (fun c=>Nm.valid c=true/\Nm.under n c=true/\Nm.under c z.ad=true/\∀ d∈bO z.ad z.ab,Nm.under n d=true->Nm.under c d=true) (fun c=>(Nm.labels c).length) n ⟨h1,YP n,h3,fun d _ h=>h⟩ ?_ ?_
 ·exact sZ
 rintro c ⟨k1,k2,k3,k4⟩ IH;refine aa.head ag F51 2000 ?_;(conv=>whnf);by_cases h4:c=z.ad
 ·refine aP (by simpa using h4) ?_;refine gO F51 ?_;subst h4;rw[YV V k4];rfl
 refine aJ (by simpa using h4) ?_;have hr:c≠[46]:=fun e=>h4 (by rw[e]at k3 ⊢;exact(Iv k3).symm);have c4:=Df z ⟨c,2⟩ (by omega) V.names k1 V.sorted;have c5:=PA c k1 hr;have t1:=rY k1 hr;have t2:=Iw k1 hr;refine gO F51 ?_
 with_reducible refine uS (c4) ?_
 rintro r ⟨i,-,rfl,-⟩;refine gO F51 ?_;cases h5:z.ab.any (cE ⟨c,2⟩)
 ·refine aV ?_;refine gO F51 ?_;refine aj (c5) ?_;refine gO F51 ?_;have aM:∀ d∈bO z.ad z.ab,c≠d:=fun d hd e=>by
   have:=(Iy hd).1;rw[<- e,h5]at this;cases this
  refine aa.back (IH (fN (Nm.labels c).tail) ⟨t1.1,YQ k2 (YS k1 hr),Dy k1 hr k3 h4,fun d hd hu=>Dy k1 hr (k4 d hd hu) (aM d hd)⟩ t2) ?_;exact sZ
 ·refine bq ?_;refine gO F51 ?_;rw[YU V (YT h5 h4) k2];rfl
theorem IA{l:List Signed}{c:Text}(h:gG l c=true):kr l (Nm.labels c)=Nm.labels c:=by
 cases e:Nm.labels c with
 |nil=>rfl
 |cons x r=>rw[kr,<- e,rU,if_pos h]
theorem IB{l:List Signed}{c:Text}(h:gG l c=false):kr l (Nm.labels c)=kr l (Nm.labels c).tail:=by
 cases e:Nm.labels c with
 |nil=>rfl
 |cons x r=>rw[kr,<- e,rU,h];simp[e]
theorem AT{t:Text}(hv:Nm.valid t=true):(Nm.labels t).length<=8/\∀ x∈Nm.labels t,x.length<=100:=by
 by_cases hr:t=[46]
 ·subst hr;simp[PB]
 obtain⟨h1,h2⟩:=PC hv hr;rw[Nm.labels,if_neg hr];obtain⟨p1,p2⟩:=mX.1 h2;refine⟨p1,fun x hx=>?_⟩;obtain⟨i,hi⟩:=List.getElem?_of_mem hx;have:=p2 i x hi;simp only[gH,Nm.label,Bool.or_eq_true,Bool.and_eq_true,decide_eq_true_eq]at this;rcases this with h|⟨_,rfl⟩
 ·omega
 ·simp
theorem YX(z:aQ)(q:aG)(cut:Text)(b:Bool)(w:Text)(V:eH z)(hq:Nm.valid q.name=true)(hu:Nm.under q.name z.ad=true):aB E 100 [bH z q cut b w,bA z] [.ptr 0 0] (fun x h=>x=.d (.str ((pc z.ab q.name).getD []))/\h=[bH z q cut b w,bA z]):=by
 have c0:=fun n hn=>AS z q cut b w n V hn;unfold bH bA at c0;apply aB.jP
 case hk=>rfl
 case hc =>
  unfold bH bA;refine aB.run ag (fn:=Tryz.f100) Tryz.func100 (body:=Tryz.f100.body.getD .skip) rfl (by decide) 2000 rfl ?_;(conv=>whnf);refine aa.loop (κ:=Text) ([3]++rg 13 17) (fun c=>[(3,.d (.str c))]) (fun _=>[]) (fun c=>Nm.valid c=true/\Nm.under c z.ad=true/\kr z.ab (Nm.labels q.name)=kr z.ab (Nm.labels c)) (fun c=>(Nm.labels c).length) q.name ⟨hq,hu,rfl⟩ ?_ ?_
  ·exact sZ
  rintro c ⟨k1,k2,k3⟩ IH;refine aa.head ag F100 2000 ?_;(conv=>whnf);have c1:=c0 c k1;have mu:=O7 c (by have:=dF k1;exact mQ (by omega));unfold vN at mu;rw[k1]at mu;have hl:=AT k1;have fin:gG z.ab c=true->pc z.ab q.name=jO ([42]::Nm.labels c):=fun h=>by rw[pc,k3,IA h]
  have hj:=YN ([42]::Nm.labels c) (by simp;omega) (fun t ht=>by
   rcases List.mem_cons.1 ht with rfl|h
   ·simp
   ·exact hl.2 t h)
  by_cases h4:c=z.ad
  ·rw[fin (by rw[h4];exact V.O6)];clear fin IH;refine aP (by simpa using h4) ?_;refine gO F100 ?_;refine aV ?_;refine gO F100 ?_;refine aj mu ?_;(conv=>whnf);refine aa.run ag F100 8 ?_;(conv=>whnf);refine aa.kQ ag rfl ?_;refine gO F100 ?_;refine bB ⟨by simp;omega,by simp[DV.cells]⟩ ?_;(conv=>whnf);refine aa.freeze 2 ?_;(conv=>whnf);refine gO F100 ?_;cases hJ:jO ([42]::Nm.labels c)with
   |none =>
    rw[hJ]at hj;refine aj (hj) ?_;refine gO F100 ?_;refine bq ?_;refine gO F100 ?_;exact⟨rfl,rfl⟩
   |some t =>
    rw[hJ]at hj;refine aj (hj) ?_;refine gO F100 ?_;refine aV ?_;refine gO F100 ?_;exact⟨rfl,rfl⟩
  ·refine aJ (by simpa using h4) ?_;have hr:c≠[46]:=fun e=>h4 (by rw[e]at k2 ⊢;exact(Iv k2).symm);refine gO F100 ?_
   with_reducible refine bG (c1) ?_
   refine gO F100 ?_;cases h5:gG z.ab c
   ·refine bq ?_;have c5:=PA c k1 hr;refine gO F100 ?_;refine aj (c5) ?_;refine gO F100 ?_;refine aa.back (IH (fN (Nm.labels c).tail) ⟨(rY k1 hr).1,Dy k1 hr k2 h4,by rw[k3,IB h5,(rY k1 hr).2]⟩ (Iw k1 hr)) ?_;exact sZ
   ·rw[fin h5];clear fin IH;refine aV ?_;refine gO F100 ?_;refine aj mu ?_;(conv=>whnf);refine aa.run ag F100 8 ?_;(conv=>whnf);refine aa.kQ ag rfl ?_;refine gO F100 ?_;refine bB ⟨by simp;omega,by simp[DV.cells]⟩ ?_;(conv=>whnf);refine aa.freeze 2 ?_;(conv=>whnf);refine gO F100 ?_;cases hJ:jO ([42]::Nm.labels c)with
    |none =>
     rw[hJ]at hj;refine aj (hj) ?_;refine gO F100 ?_;refine bq ?_;refine gO F100 ?_;exact⟨rfl,rfl⟩
    |some t =>
     rw[hJ]at hj;refine aj (hj) ?_;refine gO F100 ?_;refine aV ?_;refine gO F100 ?_;exact⟨rfl,rfl⟩
def IC:DV := .agg [.int .i64 0,.aW,.str []]
theorem YY(z:aQ)(q:aG)(cut:Text)(b:Bool)(w:Text)(V:eH z)(hf:z.gV)(hq:Nm.valid q.name=true)(he:gG z.ab q.name=true):aB E 56 [bH z q cut b w,bA z] [.ptr 0 0] (fun x h=>x=.aK [.d (og 5 (bN z.ab (b8 [aq z.ab ⟨z.ad,4⟩,cJ z.ab q.name])) []),.d (.bool true)]/\h=[bH z q cut b w,bA z]):=by
 have c0:=AS z q cut b w q.name V hq;have c1:=Ip z q cut b w V.sorted;have c3:=vR z q cut b w q.name V hq;have ai:=(fX (l:=z.ab) (q:=⟨z.ad,4⟩)).2;have jK:=(tB (l:=z.ab) (n:=q.name)).2;rw[he]at c0;generalize aq z.ab ⟨z.ad,4⟩=i at *;generalize cJ z.ab q.name=j at *;have c2:=my z q cut b w 5 [i,j] hf (fun p hp=>by simp at hp;rcases hp with rfl|rfl<;>assumption) (by simp);simp only[List.map_cons,List.map_nil]at c2;unfold bH bA at c0 c1 c2 c3;apply aB.jP
 case hk=>rfl
 case hc =>
  unfold bH bA;refine aB.run ag (fn:=Tryz.f56) Tryz.func56 (body:=Tryz.f56.body.getD .skip) rfl (by decide) 2000 rfl ?_;conv=>whnf
  with_reducible refine bG (c0) ?_
  refine gO Tryz.func56 ?_;refine bq ?_;refine gO Tryz.func56 ?_;refine aa.draw ag bU 12 2000 (by kernel_rfl) ?_;(conv=>whnf);refine cg.kq (ah:=[0,1]) c1 rfl rfl fz (kv (bg rfl)) (by decide) (by simp) rfl rfl rfl ?_;refine gD ?_;refine cg.kq (ah:=[0,1]) c3 rfl rfl fz (mw (bg rfl) (bg rfl)) (by decide) (by simp) rfl rfl rfl ?_;refine gD ?_;refine cg.kq (ah:=[0,1]) c2 rfl rfl fz (qp (bg rfl) qo (bg rfl)) (by decide) (by simp) rfl rfl rfl ?_;refine gD ?_;refine gS ?_;refine gO Tryz.func56 ?_;exact⟨rfl,rfl⟩
theorem YZ(z:aQ)(q:aG)(cut:Text)(b:Bool)(w:Text)(V:eH z)(hq:Nm.valid q.name=true)(hu:Nm.under q.name z.ad=true)(he:gG z.ab q.name=false):aB E 56 [bH z q cut b w,bA z] [.ptr 0 0] (fun x h=>x=.aK [.d IC,.d (.bool false)]/\h=[bH z q cut b ((pc z.ab q.name).getD []),bA z]):=by
 have c0:=AS z q cut b w q.name V hq;have c1:=YX z q cut b w V hq hu;rw[he]at c0;unfold bH bA at c0 c1;apply aB.jP
 case hk=>rfl
 case hc =>
  unfold bH bA;refine aB.run ag (fn:=Tryz.f56) Tryz.func56 (body:=Tryz.f56.body.getD .skip) rfl (by decide) 2000 rfl ?_;conv=>whnf
  with_reducible refine bG (c0) ?_
  refine gO Tryz.func56 ?_;refine aV ?_;refine gO Tryz.func56 ?_
  with_reducible refine bG (c1) ?_
  refine gO Tryz.func56 ?_;exact⟨rfl,rfl⟩
theorem PD(z:aQ)(q:aG)(cut:Text)(b:Bool)(w:Text)(V:eH z)(hw:w=[]\/(Nm.valid w=true/\gG z.ab w=false)):aB E 59 [bH z q cut b w,bA z] [.ptr 0 0] (fun x h=>x=.aK [.d IC,.d (.bool false)]/\h=[bH z q cut b w,bA z]):=by
 apply aB.jP
 case hk=>rfl
 case hc =>
  by_cases h0:w=[]
  ·subst h0;unfold bH bA;refine aB.run ag (fn:=Tryz.f59) Tryz.func59 (body:=Tryz.f59.body.getD .skip) rfl (by decide) 2000 rfl ?_;(conv=>whnf);refine aJ (by decide) ?_;refine gO F59 ?_;refine bq ?_;refine gO F59 ?_;exact⟨rfl,rfl⟩
  ·obtain⟨h1,h2⟩:=hw.resolve_left h0;have c0:=AS z q cut b w w V h1;rw[h2]at c0;unfold bH bA at c0 ⊢;refine aB.run ag (fn:=Tryz.f59) Tryz.func59 (body:=Tryz.f59.body.getD .skip) rfl (by decide) 2000 rfl ?_;(conv=>whnf);refine aP (by simpa using h0) ?_;refine gO F59 ?_
   with_reducible refine bG (c0) ?_
   refine gO F59 ?_;refine bq ?_;refine gO F59 ?_;exact⟨rfl,rfl⟩
theorem Y0(z:aQ)(q:aG)(cut:Text)(b:Bool)(w:Text)(V:eH z)(hf:z.gV)(hq:Nm.valid q.name=true)(hw:Nm.valid w=true)(he:gG z.ab w=true):aB E 59 [bH z q cut b w,bA z] [.ptr 0 0] (fun x h=>x=.aK [.d (og 5 (bN z.ab (b8 [aq z.ab ⟨z.ad,4⟩,cJ z.ab q.name,cJ z.ab w])) []),.d (.bool true)]/\h=[bH z q cut b w,bA z]):=by
 have c0:=AS z q cut b w w V hw;have c1:=Ip z q cut b w V.sorted;have c3:=vR z q cut b w q.name V hq;have c4:=vR z q cut b w w V hw;have ai:=(fX (l:=z.ab) (q:=⟨z.ad,4⟩)).2;have jK:=(tB (l:=z.ab) (n:=q.name)).2;have YE:=(tB (l:=z.ab) (n:=w)).2;have h0:w≠[]:=fun e=>by rw[e]at hw;exact absurd hw (by decide)
 rw[he]at c0;generalize aq z.ab ⟨z.ad,4⟩=i at *;generalize cJ z.ab q.name=j at *;generalize cJ z.ab w=m at *;have c2:=my z q cut b w 5 [i,j,m] hf (fun p hp=>by simp at hp;rcases hp with rfl|rfl|rfl<;>assumption) (by simp);simp only[List.map_cons,List.map_nil]at c2;unfold bH bA at c0 c1 c2 c3 c4;apply aB.jP
 case hk=>rfl
 case hc =>
  unfold bH bA;refine aB.run ag (fn:=Tryz.f59) Tryz.func59 (body:=Tryz.f59.body.getD .skip) rfl (by decide) 2000 rfl ?_;(conv=>whnf);refine aP (by simpa using h0) ?_;refine gO F59 ?_
  with_reducible refine bG (c0) ?_
  refine gO F59 ?_;refine aV ?_;refine gO F59 ?_;refine aa.draw ag bU 18 2000 (by kernel_rfl) ?_;(conv=>whnf);refine cg.kq (ah:=[0,1]) c1 rfl rfl fz (kv (bg rfl)) (by decide) (by simp) rfl rfl rfl ?_;refine gD ?_;refine cg.kq (ah:=[0,1]) c3 rfl rfl fz (mw (bg rfl) (bg rfl)) (by decide) (by simp) rfl rfl rfl ?_;refine gD ?_;refine cg.kq (ah:=[0,1]) c4 rfl rfl fz (mw (bg rfl) (bg rfl)) (by decide) (by simp) rfl rfl rfl ?_;refine gD ?_;refine cg.kq (ah:=[0,1]) c2 rfl rfl fz (qp (bg rfl) qo (bg rfl)) (by decide) (by simp) rfl rfl rfl ?_;refine gD ?_;refine gS ?_;refine gO F59 ?_;exact⟨rfl,rfl⟩
theorem PE{s:eM}(h:fg s=true)(ht:s.type=2):∀ d∈s.data,Nm.valid d.text=true:=fun d hd=>by
 simp only[fg,Bool.and_eq_true]at h;have:=CU h.2 d hd;rw[ht]at this;simp only[jH,Bool.and_eq_true]at this;have:=this.2;simp[mj,fL]at this;exact this.1
def dO(l:List Signed)(c:Text)(D:List Datum):List Int:=(D.filter fun d=>Nm.under d.text c).map fun d=>aq l ⟨d.text,1⟩
theorem vS{l:List Signed}{c:Text}{D:List Datum}{k:Nat}{d:Datum}(h:D[k]?=some d):dO l c (D.take (k+1))=dO l c (D.take k)++(if Nm.under d.text c then[aq l ⟨d.text,1⟩]else[]):=by
 rw[ey h];unfold dO;rw[List.filter_append,List.map_append];cases e:Nm.under d.text c<;>simp[e]
theorem rZ(l:List Signed)(c:Text)(D:List Datum):(dO l c D).length<=D.length:=by
 unfold dO;rw[List.length_map];exact List.length_filter_le _ _
theorem vT{l:List Signed}{c:Text}{D:List Datum}{p:Int}(h:p∈dO l c D):p<l.length:=by
 simp only[dO,List.mem_map]at h;obtain⟨d,-,rfl⟩:=h;exact fX.2
def om(q:aG)(cut:Text)(b:Bool):Bool := !b||(decide (q.name=cut)&&(decide (q.type=6)||decide (q.type=8)))
theorem Y1(z:aQ)(q:aG)(cut:Text)(b:Bool)(w:Text)(hb:om q cut b=true):aB E 53 [bH z q cut b w,bA z] [.ptr 0 0] (fun x h=>x=.aK [.d IC,.d (.bool false)]/\h=[bH z q cut b w,bA z]):=by
 apply aB.jP
 case hk=>rfl
 case hc =>
  unfold bH bA;by_cases h6:q.type=6
  ·refine aB.run ag (fn:=Tryz.f53) Tryz.func53 (body:=Tryz.f53.body.getD .skip) rfl (by decide) 2000 rfl ?_;(conv=>whnf);refine aJ (by simpa using h6) ?_;refine gO F53 ?_;cases b
   ·refine aa.draw ag bU 20 2000 (by kernel_rfl) ?_;(conv=>whnf);refine bq ?_;refine gD ?_;refine gS ?_;refine gO F53 ?_;refine bq ?_;refine gO F53 ?_;exact⟨rfl,rfl⟩
   ·have hn:q.name=cut:=by simpa [om,h6]using hb
    refine aa.draw ag bU 20 2000 (by kernel_rfl) ?_;(conv=>whnf);refine aV ?_;refine gD ?_;refine aJ (by simpa using hn) ?_;refine gD ?_;refine gS ?_;refine gO F53 ?_;refine bq ?_;refine gO F53 ?_;exact⟨rfl,rfl⟩
  ·refine aB.run ag (fn:=Tryz.f53) Tryz.func53 (body:=Tryz.f53.body.getD .skip) rfl (by decide) 2000 rfl ?_;(conv=>whnf);refine aP (by simpa using h6) ?_;refine gO F53 ?_;cases b
   ·refine aa.draw ag bU 20 2000 (by kernel_rfl) ?_;(conv=>whnf);refine bq ?_;refine gD ?_;refine gS ?_;refine gO F53 ?_;refine bq ?_;refine gO F53 ?_;exact⟨rfl,rfl⟩
   ·have hn:q.name=cut/\q.type=8:=by simpa [om,h6]using hb
    refine aa.draw ag bU 20 2000 (by kernel_rfl) ?_;(conv=>whnf);refine aV ?_;refine gD ?_;refine aJ (by simpa using hn.1) ?_;refine gD ?_;refine gS ?_;refine gO F53 ?_;refine aJ (by simpa using hn.2) ?_;refine gO F53 ?_;exact⟨rfl,rfl⟩
theorem Y2(z:aQ)(q:aG)(cut:Text)(w:Text)(V:eH z)(hf:z.gV)(hc:Nm.valid cut=true)(h2:0<=aq z.ab ⟨cut,2⟩)(hb:om q cut true=false):aB E 53 [bH z q cut true w,bA z] [.ptr 0 0] (fun x h=>x=.aK [.d (og 4 (bN z.ab (gX z.ab cut)) cut),.d (.bool true)]/\h=[bH z q cut true w,bA z]):=by
 have p2:=rW z q cut true w cut 2 V.sorted;have p6:=rW z q cut true w cut 6 V.sorted;have p8:=rW z q cut true w cut 8 V.sorted;have p1:=fun n=>rW z q cut true w n 1 V.sorted;have sk:=(fX (l:=z.ab) (q:=⟨cut,2⟩)).2;obtain⟨s,hs,iD⟩:=jN h2;have fW:=PE (V.ab s (List.mem_of_getElem? hs)) (congrArg aG.type (qj iD)).symm;have Y3:=(rF (V.ab s (List.mem_of_getElem? hs))).2.1;have adB:=rZ z.ab cut s.set.data;have kO:x8 z.ab cut=s.set.data:=by rw[x8,hs]
 unfold bH bA at p2 p6 p8 p1;apply aB.jP
 case hk=>rfl
 case hc =>
  unfold bH bA;by_cases h6:q.type=6
  ·have hn:q.name≠cut:=fun e=>by simp[om,h6,e]at hb
   refine aB.run ag (fn:=Tryz.f53) Tryz.func53 (body:=Tryz.f53.body.getD .skip) rfl (by decide) 2000 rfl ?_;(conv=>whnf);refine aJ (by simpa using h6) ?_;refine gO F53 ?_;refine aa.draw ag bU 20 2000 (by kernel_rfl) ?_;(conv=>whnf);refine aV ?_;refine gD ?_;refine aP (by simpa using hn) ?_;refine gD ?_;refine gS ?_;refine gO F53 ?_;refine aV ?_;refine gO F53 ?_
   with_reducible refine bG (p2) ?_
   refine gO F53 ?_;by_cases ai:aq z.ab ⟨cut,6⟩<0
   ·with_reducible refine bG (p6) ?_
    refine gO F53 ?_;refine aJ (decide_eq_true ai) ?_;refine gO F53 ?_
    with_reducible refine bG p8 ?_
    (conv=>whnf);refine aa.run ag F53 6 ?_;have nr:gX z.ab cut=b8 (aq z.ab ⟨cut,2⟩::aq z.ab ⟨cut,8⟩::dO z.ab cut s.set.data):=by
     rw[gX,eA,if_pos ai,lP,kO];rfl
    have c4:=my z q cut true w 4 (aq z.ab ⟨cut,2⟩::aq z.ab ⟨cut,8⟩::dO z.ab cut s.set.data) hf (fun p hp=>by
     rcases List.mem_cons.1 hp with rfl|hp
     ·exact fX.2
     rcases List.mem_cons.1 hp with rfl|hp
     ·exact fX.2
     exact vT hp) (by simp;omega)
    unfold bH bA at c4;(conv=>whnf);refine aa.kQ ag rfl ?_;refine gO F53 ?_;refine aD (e:=s.enc) ⟨h2,by rw[List.getElem?_map,hs];rfl⟩ rfl ?_;refine gO F53 ?_;refine aa.loop (κ:=Nat) ([7,9]++rg 79 19) (fun k=>[(79,.d (.int .i64 k)),(7,.own 3 1)]) (fun k=>[(3,.arr 1 (3,1) ((aq z.ab ⟨cut,2⟩::aq z.ab ⟨cut,8⟩::dO z.ab cut (s.set.data.take k)).map (.int .i64)))]) (fun k=>k<=s.set.data.length) (fun k=>s.set.data.length-k) 0 (Nat.zero_le _) ?_ ?_
    ·(conv=>whnf);repeat (first|exact trivial|(refine sI ?_;conv=>whnf))
     refine And.intro rfl ?_;exact sZ
    intro k hk IH;have iQ:=rZ z.ab cut (s.set.data.take k);rw[List.length_take]at iQ;refine aa.head ag F53 2000 ?_;(conv=>whnf);refine ar (fun h5=>?_) (fun h5=>?_)
    ·have kx:k<s.set.data.length:=by simpa using h5
     obtain⟨d,hd⟩:=bd kx;have c2:=vQ d.text cut (fW d (List.mem_of_getElem? hd)) hc;have p1:=p1 d.text;have fA:=vS (l:=z.ab) (c:=cut) hd;refine gO F53 ?_;refine aD (e:=d.enc) (aU hd) rfl ?_;refine gO F53 ?_;refine aa.draw ag bU 7 2000 (by kernel_rfl) ?_;(conv=>whnf);refine bl (c2) ?_;refine gD ?_;refine gS ?_;refine gO F53 ?_;cases hu:Nm.under d.text cut
     ·rw[hu,if_neg (by decide),List.append_nil]at fA;refine aV ?_;refine gO F53 ?_;refine aa.back (IH (k+1) (by omega) (by omega)) ?_;rw[fA];exact sZ
     ·rw[hu,if_pos rfl]at fA;refine bq ?_;refine gO F53 ?_
      with_reducible refine bG (p1) ?_
      refine gO F53 ?_;refine bB ⟨by simp;omega,by simp[DV.cells]⟩ ?_;refine gO F53 ?_;refine aa.back (IH (k+1) (by omega) (by omega)) ?_;rw[fA];(conv=>whnf);repeat (first|exact trivial|(refine sI ?_;conv=>whnf))
      refine And.intro (by simp) ?_;exact sZ
    ·have aL:s.set.data.length<=k:=by simpa using h5
     rw[List.take_of_length_le aL];(conv=>whnf);refine aa.freeze 3 ?_;(conv=>whnf);refine gO F53 ?_
     with_reducible refine bG (c4) ?_
     refine gO F53 ?_;rw[nr];exact⟨rfl,rfl⟩
   ·with_reducible refine bG (p6) ?_
    refine gO F53 ?_;refine aP (decide_eq_false ai) ?_;(conv=>whnf);refine aa.run ag F53 5 ?_;have nr:gX z.ab cut=b8 (aq z.ab ⟨cut,2⟩::aq z.ab ⟨cut,6⟩::dO z.ab cut s.set.data):=by
     rw[gX,eA,if_neg ai,lP,kO];rfl
    have c4:=my z q cut true w 4 (aq z.ab ⟨cut,2⟩::aq z.ab ⟨cut,6⟩::dO z.ab cut s.set.data) hf (fun p hp=>by
     rcases List.mem_cons.1 hp with rfl|hp
     ·exact fX.2
     rcases List.mem_cons.1 hp with rfl|hp
     ·exact fX.2
     exact vT hp) (by simp;omega)
    unfold bH bA at c4;(conv=>whnf);refine aa.kQ ag rfl ?_;refine gO F53 ?_;refine aD (e:=s.enc) ⟨h2,by rw[List.getElem?_map,hs];rfl⟩ rfl ?_;refine gO F53 ?_;refine aa.loop (κ:=Nat) ([7,9]++rg 79 19) (fun k=>[(79,.d (.int .i64 k)),(7,.own 3 1)]) (fun k=>[(3,.arr 1 (3,1) ((aq z.ab ⟨cut,2⟩::aq z.ab ⟨cut,6⟩::dO z.ab cut (s.set.data.take k)).map (.int .i64)))]) (fun k=>k<=s.set.data.length) (fun k=>s.set.data.length-k) 0 (Nat.zero_le _) ?_ ?_
    ·(conv=>whnf);repeat (first|exact trivial|(refine sI ?_;conv=>whnf))
     refine And.intro rfl ?_;exact sZ
    intro k hk IH;have iQ:=rZ z.ab cut (s.set.data.take k);rw[List.length_take]at iQ;refine aa.head ag F53 2000 ?_;(conv=>whnf);refine ar (fun h5=>?_) (fun h5=>?_)
    ·have kx:k<s.set.data.length:=by simpa using h5
     obtain⟨d,hd⟩:=bd kx;have c2:=vQ d.text cut (fW d (List.mem_of_getElem? hd)) hc;have p1:=p1 d.text;have fA:=vS (l:=z.ab) (c:=cut) hd;refine gO F53 ?_;refine aD (e:=d.enc) (aU hd) rfl ?_;refine gO F53 ?_;refine aa.draw ag bU 7 2000 (by kernel_rfl) ?_;(conv=>whnf);refine bl (c2) ?_;refine gD ?_;refine gS ?_;refine gO F53 ?_;cases hu:Nm.under d.text cut
     ·rw[hu,if_neg (by decide),List.append_nil]at fA;refine aV ?_;refine gO F53 ?_;refine aa.back (IH (k+1) (by omega) (by omega)) ?_;rw[fA];exact sZ
     ·rw[hu,if_pos rfl]at fA;refine bq ?_;refine gO F53 ?_
      with_reducible refine bG (p1) ?_
      refine gO F53 ?_;refine bB ⟨by simp;omega,by simp[DV.cells]⟩ ?_;refine gO F53 ?_;refine aa.back (IH (k+1) (by omega) (by omega)) ?_;rw[fA];(conv=>whnf);repeat (first|exact trivial|(refine sI ?_;conv=>whnf))
      refine And.intro (by simp) ?_;exact sZ
    ·have aL:s.set.data.length<=k:=by simpa using h5
     rw[List.take_of_length_le aL];(conv=>whnf);refine aa.freeze 3 ?_;(conv=>whnf);refine gO F53 ?_
     with_reducible refine bG (c4) ?_
     refine gO F53 ?_;rw[nr];exact⟨rfl,rfl⟩
  ·by_cases hn:q.name=cut
   ·have h8:q.type≠8:=fun e=>by simp[om,hn,e]at hb
    refine aB.run ag (fn:=Tryz.f53) Tryz.func53 (body:=Tryz.f53.body.getD .skip) rfl (by decide) 2000 rfl ?_;(conv=>whnf);refine aP (by simpa using h6) ?_;refine gO F53 ?_;refine aa.draw ag bU 20 2000 (by kernel_rfl) ?_;(conv=>whnf);refine aV ?_;refine gD ?_;refine aJ (by simpa using hn) ?_;refine gD ?_;refine gS ?_;refine gO F53 ?_;refine aP (by simpa using h8) ?_;refine gO F53 ?_
    with_reducible refine bG (p2) ?_
    refine gO F53 ?_;by_cases ai:aq z.ab ⟨cut,6⟩<0
    ·with_reducible refine bG (p6) ?_
     refine gO F53 ?_;refine aJ (decide_eq_true ai) ?_;refine gO F53 ?_
     with_reducible refine bG p8 ?_
     (conv=>whnf);refine aa.run ag F53 6 ?_;have nr:gX z.ab cut=b8 (aq z.ab ⟨cut,2⟩::aq z.ab ⟨cut,8⟩::dO z.ab cut s.set.data):=by
      rw[gX,eA,if_pos ai,lP,kO];rfl
     have c4:=my z q cut true w 4 (aq z.ab ⟨cut,2⟩::aq z.ab ⟨cut,8⟩::dO z.ab cut s.set.data) hf (fun p hp=>by
      rcases List.mem_cons.1 hp with rfl|hp
      ·exact fX.2
      rcases List.mem_cons.1 hp with rfl|hp
      ·exact fX.2
      exact vT hp) (by simp;omega)
     unfold bH bA at c4;(conv=>whnf);refine aa.kQ ag rfl ?_;refine gO F53 ?_;refine aD (e:=s.enc) ⟨h2,by rw[List.getElem?_map,hs];rfl⟩ rfl ?_;refine gO F53 ?_;refine aa.loop (κ:=Nat) ([7,9]++rg 79 19) (fun k=>[(79,.d (.int .i64 k)),(7,.own 3 1)]) (fun k=>[(3,.arr 1 (3,1) ((aq z.ab ⟨cut,2⟩::aq z.ab ⟨cut,8⟩::dO z.ab cut (s.set.data.take k)).map (.int .i64)))]) (fun k=>k<=s.set.data.length) (fun k=>s.set.data.length-k) 0 (Nat.zero_le _) ?_ ?_
     ·(conv=>whnf);repeat (first|exact trivial|(refine sI ?_;conv=>whnf))
      refine And.intro rfl ?_;exact sZ
     intro k hk IH;have iQ:=rZ z.ab cut (s.set.data.take k);rw[List.length_take]at iQ;refine aa.head ag F53 2000 ?_;(conv=>whnf);refine ar (fun h5=>?_) (fun h5=>?_)
     ·have kx:k<s.set.data.length:=by simpa using h5
      obtain⟨d,hd⟩:=bd kx;have c2:=vQ d.text cut (fW d (List.mem_of_getElem? hd)) hc;have p1:=p1 d.text;have fA:=vS (l:=z.ab) (c:=cut) hd;refine gO F53 ?_;refine aD (e:=d.enc) (aU hd) rfl ?_;refine gO F53 ?_;refine aa.draw ag bU 7 2000 (by kernel_rfl) ?_;(conv=>whnf);refine bl (c2) ?_;refine gD ?_;refine gS ?_;refine gO F53 ?_;cases hu:Nm.under d.text cut
      ·rw[hu,if_neg (by decide),List.append_nil]at fA;refine aV ?_;refine gO F53 ?_;refine aa.back (IH (k+1) (by omega) (by omega)) ?_;rw[fA];exact sZ
      ·rw[hu,if_pos rfl]at fA;refine bq ?_;refine gO F53 ?_
       with_reducible refine bG (p1) ?_
       refine gO F53 ?_;refine bB ⟨by simp;omega,by simp[DV.cells]⟩ ?_;refine gO F53 ?_;refine aa.back (IH (k+1) (by omega) (by omega)) ?_;rw[fA];(conv=>whnf);repeat (first|exact trivial|(refine sI ?_;conv=>whnf))
       refine And.intro (by simp) ?_;exact sZ
     ·have aL:s.set.data.length<=k:=by simpa using h5
      rw[List.take_of_length_le aL];(conv=>whnf);refine aa.freeze 3 ?_;(conv=>whnf);refine gO F53 ?_
      with_reducible refine bG (c4) ?_
      refine gO F53 ?_;rw[nr];exact⟨rfl,rfl⟩
    ·with_reducible refine bG (p6) ?_
     refine gO F53 ?_;refine aP (decide_eq_false ai) ?_;(conv=>whnf);refine aa.run ag F53 5 ?_;have nr:gX z.ab cut=b8 (aq z.ab ⟨cut,2⟩::aq z.ab ⟨cut,6⟩::dO z.ab cut s.set.data):=by
      rw[gX,eA,if_neg ai,lP,kO];rfl
     have c4:=my z q cut true w 4 (aq z.ab ⟨cut,2⟩::aq z.ab ⟨cut,6⟩::dO z.ab cut s.set.data) hf (fun p hp=>by
      rcases List.mem_cons.1 hp with rfl|hp
      ·exact fX.2
      rcases List.mem_cons.1 hp with rfl|hp
      ·exact fX.2
      exact vT hp) (by simp;omega)
     unfold bH bA at c4;(conv=>whnf);refine aa.kQ ag rfl ?_;refine gO F53 ?_;refine aD (e:=s.enc) ⟨h2,by rw[List.getElem?_map,hs];rfl⟩ rfl ?_;refine gO F53 ?_;refine aa.loop (κ:=Nat) ([7,9]++rg 79 19) (fun k=>[(79,.d (.int .i64 k)),(7,.own 3 1)]) (fun k=>[(3,.arr 1 (3,1) ((aq z.ab ⟨cut,2⟩::aq z.ab ⟨cut,6⟩::dO z.ab cut (s.set.data.take k)).map (.int .i64)))]) (fun k=>k<=s.set.data.length) (fun k=>s.set.data.length-k) 0 (Nat.zero_le _) ?_ ?_
     ·(conv=>whnf);repeat (first|exact trivial|(refine sI ?_;conv=>whnf))
      refine And.intro rfl ?_;exact sZ
     intro k hk IH;have iQ:=rZ z.ab cut (s.set.data.take k);rw[List.length_take]at iQ;refine aa.head ag F53 2000 ?_;(conv=>whnf);refine ar (fun h5=>?_) (fun h5=>?_)
     ·have kx:k<s.set.data.length:=by simpa using h5
      obtain⟨d,hd⟩:=bd kx;have c2:=vQ d.text cut (fW d (List.mem_of_getElem? hd)) hc;have p1:=p1 d.text;have fA:=vS (l:=z.ab) (c:=cut) hd;refine gO F53 ?_;refine aD (e:=d.enc) (aU hd) rfl ?_;refine gO F53 ?_;refine aa.draw ag bU 7 2000 (by kernel_rfl) ?_;(conv=>whnf);refine bl (c2) ?_;refine gD ?_;refine gS ?_;refine gO F53 ?_;cases hu:Nm.under d.text cut
      ·rw[hu,if_neg (by decide),List.append_nil]at fA;refine aV ?_;refine gO F53 ?_;refine aa.back (IH (k+1) (by omega) (by omega)) ?_;rw[fA];exact sZ
      ·rw[hu,if_pos rfl]at fA;refine bq ?_;refine gO F53 ?_
       with_reducible refine bG (p1) ?_
       refine gO F53 ?_;refine bB ⟨by simp;omega,by simp[DV.cells]⟩ ?_;refine gO F53 ?_;refine aa.back (IH (k+1) (by omega) (by omega)) ?_;rw[fA];(conv=>whnf);repeat (first|exact trivial|(refine sI ?_;conv=>whnf))
       refine And.intro (by simp) ?_;exact sZ
     ·have aL:s.set.data.length<=k:=by simpa using h5
      rw[List.take_of_length_le aL];(conv=>whnf);refine aa.freeze 3 ?_;(conv=>whnf);refine gO F53 ?_
      with_reducible refine bG (c4) ?_
      refine gO F53 ?_;rw[nr];exact⟨rfl,rfl⟩
   ·refine aB.run ag (fn:=Tryz.f53) Tryz.func53 (body:=Tryz.f53.body.getD .skip) rfl (by decide) 2000 rfl ?_;(conv=>whnf);refine aP (by simpa using h6) ?_;refine gO F53 ?_;refine aa.draw ag bU 20 2000 (by kernel_rfl) ?_;(conv=>whnf);refine aV ?_;refine gD ?_;refine aP (by simpa using hn) ?_;refine gD ?_;refine gS ?_;refine gO F53 ?_;refine aV ?_;refine gO F53 ?_
    with_reducible refine bG (p2) ?_
    refine gO F53 ?_;by_cases ai:aq z.ab ⟨cut,6⟩<0
    ·with_reducible refine bG (p6) ?_
     refine gO F53 ?_;refine aJ (decide_eq_true ai) ?_;refine gO F53 ?_
     with_reducible refine bG p8 ?_
     (conv=>whnf);refine aa.run ag F53 6 ?_;have nr:gX z.ab cut=b8 (aq z.ab ⟨cut,2⟩::aq z.ab ⟨cut,8⟩::dO z.ab cut s.set.data):=by
      rw[gX,eA,if_pos ai,lP,kO];rfl
     have c4:=my z q cut true w 4 (aq z.ab ⟨cut,2⟩::aq z.ab ⟨cut,8⟩::dO z.ab cut s.set.data) hf (fun p hp=>by
      rcases List.mem_cons.1 hp with rfl|hp
      ·exact fX.2
      rcases List.mem_cons.1 hp with rfl|hp
      ·exact fX.2
      exact vT hp) (by simp;omega)
     unfold bH bA at c4;(conv=>whnf);refine aa.kQ ag rfl ?_;refine gO F53 ?_;refine aD (e:=s.enc) ⟨h2,by rw[List.getElem?_map,hs];rfl⟩ rfl ?_;refine gO F53 ?_;refine aa.loop (κ:=Nat) ([7,9]++rg 79 19) (fun k=>[(79,.d (.int .i64 k)),(7,.own 3 1)]) (fun k=>[(3,.arr 1 (3,1) ((aq z.ab ⟨cut,2⟩::aq z.ab ⟨cut,8⟩::dO z.ab cut (s.set.data.take k)).map (.int .i64)))]) (fun k=>k<=s.set.data.length) (fun k=>s.set.data.length-k) 0 (Nat.zero_le _) ?_ ?_
     ·(conv=>whnf);repeat (first|exact trivial|(refine sI ?_;conv=>whnf))
      refine And.intro rfl ?_;exact sZ
     intro k hk IH;have iQ:=rZ z.ab cut (s.set.data.take k);rw[List.length_take]at iQ;refine aa.head ag F53 2000 ?_;(conv=>whnf);refine ar (fun h5=>?_) (fun h5=>?_)
     ·have kx:k<s.set.data.length:=by simpa using h5
      obtain⟨d,hd⟩:=bd kx;have c2:=vQ d.text cut (fW d (List.mem_of_getElem? hd)) hc;have p1:=p1 d.text;have fA:=vS (l:=z.ab) (c:=cut) hd;refine gO F53 ?_;refine aD (e:=d.enc) (aU hd) rfl ?_;refine gO F53 ?_;refine aa.draw ag bU 7 2000 (by kernel_rfl) ?_;(conv=>whnf);refine bl (c2) ?_;refine gD ?_;refine gS ?_;refine gO F53 ?_;cases hu:Nm.under d.text cut
      ·rw[hu,if_neg (by decide),List.append_nil]at fA;refine aV ?_;refine gO F53 ?_;refine aa.back (IH (k+1) (by omega) (by omega)) ?_;rw[fA];exact sZ
      ·rw[hu,if_pos rfl]at fA;refine bq ?_;refine gO F53 ?_
       with_reducible refine bG (p1) ?_
       refine gO F53 ?_;refine bB ⟨by simp;omega,by simp[DV.cells]⟩ ?_;refine gO F53 ?_;refine aa.back (IH (k+1) (by omega) (by omega)) ?_;rw[fA];(conv=>whnf);repeat (first|exact trivial|(refine sI ?_;conv=>whnf))
       refine And.intro (by simp) ?_;exact sZ
     ·have aL:s.set.data.length<=k:=by simpa using h5
      rw[List.take_of_length_le aL];(conv=>whnf);refine aa.freeze 3 ?_;(conv=>whnf);refine gO F53 ?_
      with_reducible refine bG (c4) ?_
      refine gO F53 ?_;rw[nr];exact⟨rfl,rfl⟩
    ·with_reducible refine bG (p6) ?_
     refine gO F53 ?_;refine aP (decide_eq_false ai) ?_;(conv=>whnf);refine aa.run ag F53 5 ?_;have nr:gX z.ab cut=b8 (aq z.ab ⟨cut,2⟩::aq z.ab ⟨cut,6⟩::dO z.ab cut s.set.data):=by
      rw[gX,eA,if_neg ai,lP,kO];rfl
     have c4:=my z q cut true w 4 (aq z.ab ⟨cut,2⟩::aq z.ab ⟨cut,6⟩::dO z.ab cut s.set.data) hf (fun p hp=>by
      rcases List.mem_cons.1 hp with rfl|hp
      ·exact fX.2
      rcases List.mem_cons.1 hp with rfl|hp
      ·exact fX.2
      exact vT hp) (by simp;omega)
     unfold bH bA at c4;(conv=>whnf);refine aa.kQ ag rfl ?_;refine gO F53 ?_;refine aD (e:=s.enc) ⟨h2,by rw[List.getElem?_map,hs];rfl⟩ rfl ?_;refine gO F53 ?_;refine aa.loop (κ:=Nat) ([7,9]++rg 79 19) (fun k=>[(79,.d (.int .i64 k)),(7,.own 3 1)]) (fun k=>[(3,.arr 1 (3,1) ((aq z.ab ⟨cut,2⟩::aq z.ab ⟨cut,6⟩::dO z.ab cut (s.set.data.take k)).map (.int .i64)))]) (fun k=>k<=s.set.data.length) (fun k=>s.set.data.length-k) 0 (Nat.zero_le _) ?_ ?_
     ·(conv=>whnf);repeat (first|exact trivial|(refine sI ?_;conv=>whnf))
      refine And.intro rfl ?_;exact sZ
     intro k hk IH;have iQ:=rZ z.ab cut (s.set.data.take k);rw[List.length_take]at iQ;refine aa.head ag F53 2000 ?_;(conv=>whnf);refine ar (fun h5=>?_) (fun h5=>?_)
     ·have kx:k<s.set.data.length:=by simpa using h5
      obtain⟨d,hd⟩:=bd kx;have c2:=vQ d.text cut (fW d (List.mem_of_getElem? hd)) hc;have p1:=p1 d.text;have fA:=vS (l:=z.ab) (c:=cut) hd;refine gO F53 ?_;refine aD (e:=d.enc) (aU hd) rfl ?_;refine gO F53 ?_;refine aa.draw ag bU 7 2000 (by kernel_rfl) ?_;(conv=>whnf);refine bl (c2) ?_;refine gD ?_;refine gS ?_;refine gO F53 ?_;cases hu:Nm.under d.text cut
      ·rw[hu,if_neg (by decide),List.append_nil]at fA;refine aV ?_;refine gO F53 ?_;refine aa.back (IH (k+1) (by omega) (by omega)) ?_;rw[fA];exact sZ
      ·rw[hu,if_pos rfl]at fA;refine bq ?_;refine gO F53 ?_
       with_reducible refine bG (p1) ?_
       refine gO F53 ?_;refine bB ⟨by simp;omega,by simp[DV.cells]⟩ ?_;refine gO F53 ?_;refine aa.back (IH (k+1) (by omega) (by omega)) ?_;rw[fA];(conv=>whnf);repeat (first|exact trivial|(refine sI ?_;conv=>whnf))
       refine And.intro (by simp) ?_;exact sZ
     ·have aL:s.set.data.length<=k:=by simpa using h5
      rw[List.take_of_length_le aL];(conv=>whnf);refine aa.freeze 3 ?_;(conv=>whnf);refine gO F53 ?_
      with_reducible refine bG (c4) ?_
      refine gO F53 ?_;rw[nr];exact⟨rfl,rfl⟩
def Dz(a:iI):DV := .agg [.int .i64 a.kind,if a.kind=0\/a.kind=7 then .aW else .sl (a.ab.map Signed.enc),.str a.cut]
theorem Y7{z:aQ}{q:aG}{cut:Text}{b:Bool}(hu:Nm.under q.name z.ad=true)(h1:b=true->gW z q.name=some cut)(h0:b=false->gW z q.name=none)(hs:om q cut b=true):bK z q=fY z q:=by
 rw[bK,if_pos hu];cases b
 ·rw[h0 rfl]
 ·rw[h1 rfl];simp[om]at hs;simp[hs]
theorem Y8{z:aQ}{q:aG}{cut:Text}(hu:Nm.under q.name z.ad=true)(h1:gW z q.name=some cut)(hs:om q cut true=false):bK z q=⟨4,bN z.ab (gX z.ab cut),cut⟩:=by
 rw[bK,if_pos hu,h1];simp[om]at hs;have:¬ (q.name=cut/\(q.type=6\/q.type=8)):=fun⟨e1,e2⟩=>by
  have:=hs e1;omega
 simp[this]
theorem DA{z:aQ}(V:eH z){n c:Text}(h:gW z n=some c):Nm.valid c=true/\0<=aq z.ab ⟨c,2⟩:=by
 have hm:=List.mem_of_find?_eq_some h;obtain⟨s,hs,e,hc⟩:=nZ hm;have h2:=(Iy hm).1;refine⟨e ▸ V.names s hs,?_⟩;rw[NZ]at h2
 simpa using h2
theorem PG(l:List Signed):∀ (L:List Text),kr l L <:+ L
 |[]=>List.suffix_refl _
 |x::r=>by
  unfold kr;split
  ·exact List.suffix_refl _
  ·exact(PG l r).trans (List.suffix_cons _ _)
theorem Y9{t:Text}:∀ x∈Nm.labels t,(46:UInt8) ∉ x:=fun x hx=>by
 unfold Nm.labels at hx;split at hx
 ·cases hx
 ·exact Nm.LS t x hx
theorem PH{l:List Signed}{n w:Text}(h:pc l n=some w):Nm.valid w=true:=by
 have hM:∀ x∈[42]::kr l (Nm.labels n),(46:UInt8) ∉ x:=fun x hx=>by
  rcases List.mem_cons.1 hx with rfl|hx
  ·decide
  ·exact Y9 x ((PG l _).subset hx)
 unfold pc jO at h;generalize kr l (Nm.labels n)=r at *;have e:fN ([42]::r)=Nm.glue ([42]::r):=by simp[fN]
 rw[e]at h;split at h
 ·rename_i q;cases h;simp only[Bool.and_eq_true,decide_eq_true_eq]at q;have hs:Nm.split (Nm.glue ([42]::r))=[42]::r:=Nm.LU _ (by simp) hM;simp[Nm.valid,hs,q.1,q.2]
 ·cases h
theorem AX{p:Int}(h:0<=p):b8 [p]=[p]:=by
 simp[b8,du];omega
theorem Y'(a b:Int):b8 [a,b,-1]=b8 [a,b]:=by
 simp[b8,du]
theorem PI{z:aQ}(V:eH z)(t:Int):¬ 0<=aq z.ab ⟨[],t⟩:=fun h=>by
 obtain⟨s,h1,h2⟩:=jN h;have e:=congrArg aG.name (qj h2);have:=V.names s (List.mem_of_getElem? h1);simp only at e;rw[<- e]at this;exact absurd this (by decide)
theorem Za(z:aQ)(q:aG)(hf:z.Fits)(hn:q.name.length<=maxLen):az E 25 [z.enc,q.enc] (· = .aK [Dz (mr z q),.int .i64 (kX z q)]):=by
 have c1:=YW z q.name hf hn;unfold Iz at c1;by_cases hq:dV q=false\/eF z=false
 ·have h1:kX z q=1:=by
   rw[kX];rcases hq with h|h<;>simp[h]
  rw[mr,h1,if_neg (by decide)];refine eP F25 ?_;by_cases t1:q.type<1
  ·refine aJ (decide_eq_true t1) ?_;refine gO F25 ?_;refine bq ?_;refine gO F25 ?_;rfl
  refine aP (decide_eq_false t1) ?_;refine gO F25 ?_;by_cases t2:8<q.type
  ·refine aJ (decide_eq_true t2) ?_;refine gO F25 ?_;rfl
  refine aP (decide_eq_false t2) ?_;refine gO F25 ?_;have e:(Nm.valid q.name&&eF z)=false:=by
   rcases hq with h|h
   ·have g1:1<=q.type:=by omega
    have g2:q.type<=8:=by omega
    simp[dV,g1,g2]at h;simp[h]
   ·simp[h]
  rw[e]at c1;refine aj (c1) ?_;refine gO F25 ?_;refine aV ?_;refine gO F25 ?_;refine bq ?_;refine gO F25 ?_;rfl
 have h2:eF z=true:=by simpa using fun h=>hq (.inr h)
 have h3:dV q=true:=by simpa using fun h=>hq (.inl h)
 have hN:kX z q=0:=by simp[kX,h2,h3]
 have V:=kY h2;have hS:=Ib h2;simp only[dV,Bool.and_eq_true,decide_eq_true_eq]at h3;obtain⟨h3,h4,h5⟩:=h3;rw[mr,hN,if_pos rfl];rw[h2,h3]at c1;cases hu:Nm.under q.name z.ad
 ·rw[hu]at c1;have e:bK z q=⟨7,[],[]⟩:=by rw[bK,hu];rfl
  rw[e];refine eP F25 ?_;refine aP (decide_eq_false (by omega)) ?_;refine gO F25 ?_;refine aP (decide_eq_false (by omega)) ?_;refine gO F25 ?_;refine aj (c1) ?_;refine gO F25 ?_;refine bq ?_;refine gO F25 ?_;rfl
 rw[hu]at c1;obtain⟨cut,b,k1,k2,k3⟩:∃ cut b,(b=true->gW z q.name=some cut)/\(b=false->gW z q.name=none)/\az E 51 [z.enc,.str q.name] (· = .aK [.str cut,.bool b,.int .i64 0]):=by
  cases e:gW z q.name with
  |none=>rw[e]at c1;exact⟨[],false,by simp,by simp,c1⟩
  |some c=>rw[e]at c1;exact⟨c,true,by simp,by simp,c1⟩
 clear c1;have hv:=Yn z q (by have:=V.len;omega);refine eP F25 ?_;refine aP (decide_eq_false (by omega)) ?_;refine gO F25 ?_;refine aP (decide_eq_false (by omega)) ?_;refine gO F25 ?_;refine aj (k3) ?_;refine gO F25 ?_;refine aV ?_;refine gO F25 ?_;refine aV ?_;refine gO F25 ?_;refine kI (hv) rfl ?_;refine gO F25 ?_;refine aa.Y5 ag rfl rfl rfl rfl rfl rfl rfl rfl rfl ?_;refine gO F25 ?_;refine aa.Y6 ag rfl rfl rfl rfl rfl rfl (bg rfl) rfl ?_;refine gO F25 ?_;refine aa.uZ ?_;refine aa.run ag F25 2000 ?_;(conv=>whnf);refine aJ (by decide) ?_;refine gO F25 ?_;refine aa.qs ag (n:=0) rfl rfl rfl rfl rfl rfl (bg rfl) (bg rfl) rfl (by decide) ?_;refine gO F25 ?_;cases hs:om q cut b
 ·obtain rfl:b=true:=by
   cases b
   ·simp[om]at hs
   ·rfl
  obtain⟨v1,v2⟩:=DA V (k1 rfl);have r0:=Y2 z q cut [] V hS v1 v2 hs;unfold bH bA at r0;rw[Y8 hu (k1 rfl) hs]
  with_reducible refine bG (r0) ?_
  refine gO F25 ?_;refine bq ?_;refine gO F25 ?_;rfl
 have r0:=Y1 z q cut b [] hs;unfold bH bA at r0;rw[Y7 hu k1 k2 hs];clear k1 k2 k3 hs
 with_reducible refine bG (r0) ?_
 refine gO F25 ?_;refine aV ?_;refine gO F25 ?_;refine aa.again ?_;refine aa.run ag F25 2000 ?_;(conv=>whnf);refine aJ (by decide) ?_;refine gO F25 ?_;refine aa.qs ag (n:=1) rfl rfl rfl rfl rfl rfl (bg rfl) (bg rfl) rfl (by decide) ?_;refine gO F25 ?_;have r1:=YC z q cut b [] V hS;unfold bH bA at r1
 with_reducible refine bG (r1) ?_
 refine gO F25 ?_;by_cases d1:0<=aq z.ab q
 ·refine aJ (by simpa using d1) ?_;refine gO F25 ?_;rw[fY,if_pos d1,AX d1];rfl
 refine aP (by simpa using d1) ?_;refine gO F25 ?_;refine aa.again ?_;refine aa.run ag F25 2000 ?_;(conv=>whnf);refine aJ (by decide) ?_;refine gO F25 ?_;refine aa.qs ag (n:=2) rfl rfl rfl rfl rfl rfl (bg rfl) (bg rfl) rfl (by decide) ?_;refine gO F25 ?_;have r2:=YD z q cut b [] V hS;unfold bH bA at r2
 with_reducible refine bG (r2) ?_
 refine gO F25 ?_;by_cases d2:0<=aq z.ab ⟨q.name,3⟩/\q.type≠8
 ·refine aJ (by simpa using d2) ?_;refine gO F25 ?_;rw[fY,if_neg d1,if_pos d2,AX d2.1];rfl
 refine aP (by simpa using d2) ?_;refine gO F25 ?_;refine aa.again ?_;refine aa.run ag F25 2000 ?_;(conv=>whnf);refine aJ (by decide) ?_;refine gO F25 ?_;refine aa.qs ag (n:=3) rfl rfl rfl rfl rfl rfl (bg rfl) (bg rfl) rfl (by decide) ?_;refine gO F25 ?_;cases he:gG z.ab q.name
 case true =>
  have r3:=YY z q cut b [] V hS h3 he;unfold bH bA at r3
  with_reducible refine bG (r3) ?_
  refine gO F25 ?_;refine bq ?_;refine gO F25 ?_;rw[fY,if_neg d1,if_neg d2,if_pos he];rfl
 have r3:=YZ z q cut b [] V h3 hu he;unfold bH bA at r3;rw[fY,if_neg d1,if_neg d2,he,if_neg (by decide)];clear d1 d2 he r0 r1 r2;cases hw:pc z.ab q.name with
 |none =>
  rw[hw]at r3;simp only[Option.getD_none]at r3;have r4:=Pu z q cut b [] V hS h3;have r5:=Pv z q cut b [] V hS h3;have r6:=PD z q cut b [] V (.inl rfl);have r7:=Pw z q cut b [] V hS h3 (.inl rfl);rw[if_pos rfl,Y']at r7;unfold bH bA at r4 r5 r6 r7
  with_reducible refine bG (r3) ?_
  refine gO F25 ?_;refine aV ?_;refine gO F25 ?_;refine aa.again ?_;refine aa.run ag F25 2000 ?_;(conv=>whnf);refine aJ (by decide) ?_;refine gO F25 ?_;refine aa.qs ag (n:=4) rfl rfl rfl rfl rfl rfl (bg rfl) (bg rfl) rfl (by decide) ?_;refine gO F25 ?_
  with_reducible refine bG (r4) ?_
  refine gO F25 ?_;refine aP (by simpa using PI V q.type) ?_;refine gO F25 ?_;refine aa.again ?_;refine aa.run ag F25 2000 ?_;(conv=>whnf);refine aJ (by decide) ?_;refine gO F25 ?_;refine aa.qs ag (n:=5) rfl rfl rfl rfl rfl rfl (bg rfl) (bg rfl) rfl (by decide) ?_;refine gO F25 ?_
  with_reducible refine bG (r5) ?_
  refine gO F25 ?_;refine aP (by have:=PI V 3;simp;omega) ?_;refine gO F25 ?_;refine aa.again ?_;refine aa.run ag F25 2000 ?_;(conv=>whnf);refine aJ (by decide) ?_;refine gO F25 ?_;refine aa.qs ag (n:=6) rfl rfl rfl rfl rfl rfl (bg rfl) (bg rfl) rfl (by decide) ?_;refine gO F25 ?_
  with_reducible refine bG (r6) ?_
  refine gO F25 ?_;refine aV ?_;refine gO F25 ?_;refine aa.again ?_;refine aa.run ag F25 2000 ?_;(conv=>whnf);refine aP (by decide) ?_;refine gO F25 ?_
  with_reducible refine bG (r7) ?_
  refine gO F25 ?_;rfl
 |some w =>
  rw[hw]at r3;simp only[Option.getD_some]at r3;have tF:=PH hw;have Zb:w≠[]:=fun e=>by rw[e]at tF;exact absurd tF (by decide)
  have r4:=Pu z q cut b w V hS h3;have r5:=Pv z q cut b w V hS h3;have r7:=Pw z q cut b w V hS h3 (.inr tF);rw[if_neg Zb]at r7;unfold bH bA at r4 r5 r7
  with_reducible refine bG (r3) ?_
  refine gO F25 ?_;refine aV ?_;refine gO F25 ?_;refine aa.again ?_;refine aa.run ag F25 2000 ?_;(conv=>whnf);refine aJ (by decide) ?_;refine gO F25 ?_;refine aa.qs ag (n:=4) rfl rfl rfl rfl rfl rfl (bg rfl) (bg rfl) rfl (by decide) ?_;refine gO F25 ?_
  with_reducible refine bG (r4) ?_
  refine gO F25 ?_;by_cases d4:0<=aq z.ab ⟨w,q.type⟩
  ·refine aJ (by simpa using d4) ?_;refine gO F25 ?_;simp only[if_pos d4];rfl
  refine aP (by simpa using d4) ?_;refine gO F25 ?_;refine aa.again ?_;refine aa.run ag F25 2000 ?_;(conv=>whnf);refine aJ (by decide) ?_;refine gO F25 ?_;refine aa.qs ag (n:=5) rfl rfl rfl rfl rfl rfl (bg rfl) (bg rfl) rfl (by decide) ?_;refine gO F25 ?_
  with_reducible refine bG (r5) ?_
  refine gO F25 ?_;by_cases d5:0<=aq z.ab ⟨w,3⟩/\q.type≠8
  ·refine aJ (by simpa using d5) ?_;refine gO F25 ?_;simp only[if_neg d4,if_pos d5];rfl
  refine aP (by simpa using d5) ?_;refine gO F25 ?_;refine aa.again ?_;refine aa.run ag F25 2000 ?_;(conv=>whnf);refine aJ (by decide) ?_;refine gO F25 ?_;refine aa.qs ag (n:=6) rfl rfl rfl rfl rfl rfl (bg rfl) (bg rfl) rfl (by decide) ?_;refine gO F25 ?_;cases he:gG z.ab w
  case true =>
   have r6:=Y0 z q cut b w V hS h3 tF he;unfold bH bA at r6
   with_reducible refine bG (r6) ?_
   refine gO F25 ?_;refine bq ?_;refine gO F25 ?_;simp only[if_neg d4,if_neg d5,if_pos he];rfl
  have r6:=PD z q cut b w V (.inr ⟨tF,he⟩);unfold bH bA at r6
  with_reducible refine bG (r6) ?_
  refine gO F25 ?_;refine aV ?_;refine gO F25 ?_;refine aa.again ?_;refine aa.run ag F25 2000 ?_;(conv=>whnf);refine aP (by decide) ?_;refine gO F25 ?_
  with_reducible refine bG (r7) ?_
  refine gO F25 ?_;simp only[if_neg d4,if_neg d5,he];rfl
end Go.Proofs.YtcmnpelmmekdkaaGreatDoor.P
end
