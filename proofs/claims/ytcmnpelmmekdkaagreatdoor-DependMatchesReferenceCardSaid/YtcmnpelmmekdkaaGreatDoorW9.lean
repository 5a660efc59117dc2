/- Lemmas of mine. Conditions: as stated. -/
import Derived.Test.YtcmnpelmmekdkaaGreatDoorW8
set_option linter.unusedVariables false
set_option linter.unusedSimpArgs false
section
namespace Go.Proofs.YtcmnpelmmekdkaaGreatDoor.P
open Go Go.aA
set_option maxRecDepth 100000
set_option maxHeartbeats 4000000
theorem Ye(a b:aM):eW a.enc b.enc=decide (a=b):=by
 obtain⟨an,at_⟩:=a;obtain⟨bn,bt⟩:=b;show eW (DV.agg [.str an,.int .i64 at_]) (DV.agg [.str bn,.int .i64 bt])=_;rw[Bool.eq_iff_iff];simp[eW,uw,qT];exact fun _ _=>by decide
def vm(l:List Signed):List (DV × DV):=l.zipIdx.foldl (fun es p=>cx (aM.enc ⟨p.1.set.name,p.1.set.type⟩) (.int .i64 p.2) es) []
theorem Yf(l:List Signed)(x:Signed):vm (l++[x])=cx (aM.enc ⟨x.set.name,x.set.type⟩) (.int .i64 l.length) (vm l):=by
 rw[vm,List.zipIdx_append,List.foldl_append];simp[vm]
theorem Pf{l:List Signed}{k:Nat}{x:Signed}(h:l[k]?=some x):vm (l.take (k+1))=cx (aM.enc ⟨x.set.name,x.set.type⟩) (.int .i64 k) (vm (l.take k)):=by
 have hk:k<l.length:=(List.getElem?_eq_some_iff.1 h).1;rw[dW h,Yf,List.length_take,Nat.min_eq_left (by omega)]
theorem Pg(l:List Signed):lO aM.enc (vm l):=by
 have main:∀ (l:List (Signed × Nat)) (es:List (DV × DV)),lO aM.enc es->lO aM.enc (l.foldl (fun es p=>cx (aM.enc ⟨p.1.set.name,p.1.set.type⟩) (.int .i64 p.2) es) es):=by
  intro l
  induction l with
  |nil=>intro es h;exact h
  |cons p l ih=>intro es h;exact ih _ (De h)
 exact main _ _ fun p hp=>by simp at hp
theorem Yg{q:aM}{x:Signed}(h:q≠⟨x.set.name,x.set.type⟩):cC q x=false:=by
 cases e:cC q x
 ·rfl
 ·exact absurd (qk e) h
theorem Yh{l:List Signed}{q:aM}{x:Signed}(h:q≠⟨x.set.name,x.set.type⟩):aq (l++[x]) q=aq l q:=by
 unfold aq;rw[List.findIdx?_append];cases e:l.findIdx? (cC q)with
 |some k=>simp
 |none=>simp[List.findIdx?_cons,Yg h]
theorem Ph{q:aM}{l:List Signed}(hs:fe l):∀ (k:Nat),k<=l.length->findD q.enc (vm (l.take k))=if 0<=aq (l.take k) q then some (.int .i64 (aq (l.take k) q))else none
 |0,_=>by simp[vm,findD,aq]
 |k+1,hk=>by
  obtain⟨x,hx⟩:=bd (l:=l) (k:=k) (by omega);have ih:=Ph (q:=q) hs k (by omega);have Yi:fe (l.take (k+1)):=fun i j a b dq ha hb=>by
   rw[List.getElem?_take]at ha hb;split at ha
   case isFalse=>cases ha
   split at hb
   case isFalse=>cases hb
   exact hs i j a b dq ha hb
  rw[Pf hx,Df Ye (Pg _)];by_cases e:q=⟨x.set.name,x.set.type⟩
  ·subst e;have:=xT Yi (k:=k) (x:=x) (by rw[List.getElem?_take,if_pos (by omega)];exact hx);rw[if_pos rfl,this,if_pos (by omega)]
  ·rw[if_neg e,dW hx,Yh e];exact ih
theorem Yj{q:aM}{l:List Signed}(hs:fe l):findD q.enc (vm l)=if 0<=aq l q then some (.int .i64 (aq l q))else none:=by
 have:=Ph (q:=q) hs l.length (Nat.le_refl _)
 rwa [List.take_length]at this
theorem H3(q:aM):ea E.T (.struct [(0,9),(1,3)]) q.enc:=⟨_,rfl,rfl,⟨_,rfl,_,rfl⟩,rfl,⟨_,rfl,_,rfl⟩,trivial⟩
theorem Pj(l:List Signed):∀ p∈vm l,ea E.T (.struct [(0,9),(1,3)]) p.1:=fun p hp=>by
 obtain⟨a,ha⟩:=Pg l p hp;rw[ha];exact H3 a
def bG(z:aP)(q:aM)(cut:Text)(b:Bool)(w:Text):af := .cells [.d (.str z.ad),.d (.sl (z.ab.map Signed.enc)),.map 1,.d (.str q.name),.d (.int .i64 q.type),.d (.str cut),.d (.bool b),.d (.str w)]
def bC(z:aP):af := .map (vm z.ab)
theorem Pk(a b:Text)(ha:Nm.valid a=true)(hb:Nm.valid b=true):au E 151 [.str a,.str b] (· = .int .i64 (bq a b)):=by
 refine eP Tryz.func151 ?_;refine aj (C0 a b ha hb) ?_;refine gO Tryz.func151 ?_
 with_reducible rfl
theorem vM(a b:Text)(ha:Nm.valid a=true)(hb:Nm.valid b=true):au E 95 [.str a,.str b] (· = .bool (Nm.under a b)):=by
 have c1:=zW a b (by have:=dK ha;exact oF (by omega)) (by have:=dK hb;exact oF (by omega));refine eP Tryz.func95 ?_;refine aj (c1) ?_;refine gO Tryz.func95 ?_;rw[An ha hb]
theorem Yk(z:aP)(q:aM)(hl:z.ab.length<=1000000):aB E 52 [] [.d z.enc,.d q.enc] (fun a b=>a=.ptr 3 0/\b=[.cells [.d (.str z.ad),.d (.sl (z.ab.map Signed.enc))],.cells [.d (.str q.name),.d (.int .i64 q.type)],.map (vm z.ab),.cells [.d (.str z.ad),.d (.sl (z.ab.map Signed.enc)),.map 2,.d (.str q.name),.d (.int .i64 q.type),.d (.str []),.d (.bool false),.d (.str [])]]):=by
 obtain⟨ad,l⟩:=z;obtain⟨qn,qt⟩:=q;show aB E _ [] [.d (DV.agg [.str ad,.sl (l.map Signed.enc)]),.d (DV.agg [.str qn,.int .i64 qt])] _;refine aB.run ag (fn:=Tryz.f52) Tryz.func52 (body:=Tryz.f52.body.getD .skip) rfl (by decide) 2000 rfl ?_;(conv=>whnf);refine aa.tw ag bN [0,1,2,3,4,5,6,8] [] 2000 (by kernel_rfl) ?_;(conv=>whnf);refine aU.run ag 2000 rfl rfl ?_;(conv=>whnf);refine aU.Pe (kt:=54) (et:=3) rfl rfl rfl (by kernel_rfl) (bg rfl) ?_;(conv=>whnf);refine And.intro rfl ?_;(conv=>whnf);refine aU.run ag 2000 rfl rfl ?_;(conv=>whnf);refine And.intro rfl ?_;(conv=>whnf);refine aU.run ag 2000 rfl rfl ?_;(conv=>whnf);refine And.intro rfl ?_;(conv=>whnf);refine aU.run ag 2000 rfl rfl ?_;(conv=>whnf);refine And.intro rfl ?_;(conv=>whnf);refine aU.run ag 2000 rfl rfl ?_;(conv=>whnf);refine gO Tryz.func52 ?_;refine aa.loop (κ:=Nat) ([6,7]++rg 22 18) (fun k=>[(22,.d (.int .i64 k))]) (fun k=>[(2,.map (vm (l.take k)))]) (fun k=>k<=l.length) (fun k=>l.length-k) 0 (Nat.zero_le _) ?_ ?_
 ·(conv=>whnf);repeat (first|exact trivial|(refine sI ?_;conv=>whnf))
  refine And.intro rfl ?_;exact sZ
 intro k hk IH;refine aa.head ag Tryz.func52 2000 ?_;(conv=>whnf);refine ar (fun h5=>?_) (fun h5=>?_)
 ·have ai:k<l.length:=by simpa using h5
  obtain⟨x,hx⟩:=bd ai;have bw:=Pf hx;simp only at hl;refine gO Tryz.func52 ?_;refine aC (e:=x.enc) (aS hx) rfl ?_;refine gO Tryz.func52 ?_;refine aa.draw ag bN 12 2000 (by kernel_rfl) ?_;(conv=>whnf);refine gS ?_;refine bA ⟨H3 ⟨x.set.name,x.set.type⟩,Pj _⟩ ?_;refine gS ?_;refine gO Tryz.func52 ?_;refine aa.back (IH (k+1) (by omega) (by omega)) ?_;rw[bw];exact sZ
 ·have aG:l.length<=k:=by simpa using h5
  rw[List.take_of_length_le aG];refine gO Tryz.func52 ?_;exact⟨rfl,rfl⟩
theorem rT(z:aP)(q:aM)(cut:Text)(b:Bool)(w:Text)(n:Text)(t:Int)(hs:fe z.ab):aB E 94 [bG z q cut b w,bC z] [.ptr 0 0,.d (.str n),.d (.int .i64 t)] (fun x h=>x=.d (.int .i64 (aq z.ab ⟨n,t⟩))/\h=[bG z q cut b w,bC z]):=by
 have hf:=Yj (q:=⟨n,t⟩) hs;have aG : -1<=aq z.ab ⟨n,t⟩:=ga.1;unfold bG bC;refine aB.run ag (fn:=Tryz.f94) Tryz.func94 (body:=Tryz.f94.body.getD .skip) rfl (by decide) 2000 rfl ?_;(conv=>whnf);have eJ:=Pj z.ab;have Pl:=H3 ⟨n,t⟩;by_cases h0:0<=aq z.ab ⟨n,t⟩
 ·rw[if_pos h0]at hf;refine mb (.int .i64 0) (.int .i64 0) (v := .int .i64 (aq z.ab ⟨n,t⟩)) (f:=true) Pl eJ (fun w=>by kernel_rfl) (fun _ _ => .int _ _) (by rw[hf];rfl) (by rw[hf];rfl) ?_;refine gO Tryz.func94 ?_;refine bp ?_;refine gO Tryz.func94 ?_;exact⟨rfl,rfl⟩
 ·rw[if_neg h0]at hf;refine mb (.int .i64 0) (.int .i64 0) (v := .int .i64 0) (f:=false) Pl eJ (fun w=>by kernel_rfl) (fun _ _ => .int _ _) (by rw[hf];rfl) (by rw[hf];rfl) ?_;refine gO Tryz.func94 ?_;refine aY ?_;refine gO Tryz.func94 ?_;exact⟨by rw[show aq z.ab ⟨n,t⟩ = -1 by omega],rfl⟩
theorem H4(z:aP)(q:aM)(cut:Text)(b:Bool)(w:Text)(hs:fe z.ab):aB E 98 [bG z q cut b w,bC z] [.ptr 0 0] (fun x h=>x=.d (.int .i64 (aq z.ab ⟨z.ad,4⟩))/\h=[bG z q cut b w,bC z]):=by
 have c1:=fun n t=>rT z q cut b w n t hs;unfold bG bC at c1;unfold bG bC;refine aB.run ag (fn:=Tryz.f98) Tryz.func98 (body:=Tryz.f98.body.getD .skip) rfl (by decide) 2000 rfl ?_;conv=>whnf
 with_reducible refine bJ (c1 z.ad 4) ?_
 refine gO Tryz.func98 ?_;exact⟨rfl,rfl⟩
theorem Yl(l:List Int)(v:Int)(hl:l.length<=1000000):au E 210 [.sl (l.map (.int .i64)),.int .i64 v] (fun r=>∃ n:Int,r=.int .i64 n/\(0<=n↔v∈l)):=by
 refine eP F210 ?_;refine aa.loop (κ:=Nat) ([4,5]++rg 8 11) (fun k=>[(8,.d (.int .i64 k))]) (fun _=>[]) (fun k=>k<=l.length/\∀ j x,j<k->l[j]?=some x->v≠x) (fun k=>l.length-k) 0 ⟨Nat.zero_le _,fun j x h=>by omega⟩ ?_ ?_
 ·exact sZ
 rintro k ⟨hk,aW⟩ IH;refine aa.head ag F210 2000 ?_;(conv=>whnf);refine ar (fun h5=>?_) (fun h5=>?_)
 ·have ai:k<l.length:=by simpa using h5
  obtain⟨x,hx⟩:=bd ai;refine gO F210 ?_;refine aC (e := .int .i64 x) (aS hx) rfl ?_;refine gO F210 ?_;by_cases e:v=x
  ·refine aI (by simpa using e) ?_;refine gO F210 ?_;exact⟨k,rfl,fun _=>e ▸ List.mem_of_getElem? hx,fun _=>by omega⟩
  ·refine aO (by simpa using e) ?_;refine gO F210 ?_;refine aa.back (IH (k+1) ⟨by omega,fun j y hj hy=>?_⟩ (by omega)) ?_
   ·rcases Nat.lt_or_eq_of_le (Nat.le_of_lt_succ hj)with h|h
    ·exact aW j y h hy
    ·subst h;rw[hx]at hy;cases hy;exact e
   exact sZ
 ·have aG:k=l.length:=by simp at h5;omega
  subst aG;refine gO F210 ?_;refine⟨-1,rfl,fun h=>absurd h (by decide),fun h=>?_⟩;obtain⟨j,hj⟩:=List.getElem?_of_mem h;exact absurd rfl (aW j v (List.getElem?_eq_some_iff.1 hj).1 hj)
theorem Ym(l:List Int)(v:Int)(hl:l.length<=1000000):au E 146 [.sl (l.map (.int .i64)),.int .i64 v] (· = .bool (decide (v∈l))):=by
 refine eP Tryz.func146 ?_
 with_reducible refine uP (Yl l v hl) ?_
 rintro r ⟨n,rfl,hn⟩;refine gO Tryz.func146 ?_;rw[show decide (n>=0)=decide (v∈l) by rw[Bool.eq_iff_iff,decide_eq_true_eq,decide_eq_true_eq];exact hn]
theorem Yn(z:aP)(q:aM)(cut:Text)(b:Bool)(w n:Text)(hv:∀ s∈z.ab,Nm.valid s.set.name=true)(hn:Nm.valid n=true){i:Nat}{s:Signed}(hi:z.ab[i]?=some s):aB E 150 [.cells [.ptr 2 0],.cells [.d (.str n)],.cells [.d (.str z.ad),.d (.sl (z.ab.map Signed.enc)),.map 3,.d (.str q.name),.d (.int .i64 q.type),.d (.str cut),.d (.bool b),.d (.str w)],bC z] [.d (.int .i64 i),.ptr 0 0,.ptr 1 0] (fun x h=>x=.d (.bool (!ji n s))/\h=[.cells [.ptr 2 0],.cells [.d (.str n)],.cells [.d (.str z.ad),.d (.sl (z.ab.map Signed.enc)),.map 3,.d (.str q.name),.d (.int .i64 q.type),.d (.str cut),.d (.bool b),.d (.str w)],bC z]):=by
 have c1:=Pk s.set.name n (hv s (List.mem_of_getElem? hi)) hn;unfold bC;refine aB.run ag (fn:=Tryz.f150) Tryz.func150 (body:=Tryz.f150.body.getD .skip) rfl (by decide) 2000 rfl ?_;(conv=>whnf);refine aa.draw ag bN 13 2000 (by kernel_rfl) ?_;(conv=>whnf);refine aC (e:=s.enc) (aS hi) rfl ?_;refine gD ?_;refine bj (c1) ?_;refine gD ?_;refine gS ?_;refine gO Tryz.func150 ?_;refine⟨?_,rfl⟩;refine congrArg (fun b=>AV.d (DV.bool b)) ?_;unfold ji;rw[Bool.eq_iff_iff];simp
theorem Yo(z:aP)(q:aM)(cut:Text)(b:Bool)(w n:Text)(hs:fe z.ab)(hl:z.ab.length<=1000000)(hv:∀ s∈z.ab,Nm.valid s.set.name=true)(hn:Nm.valid n=true):aB E 149 [.cells [.ptr 2 0],.cells [.d (.str n)],.cells [.d (.str z.ad),.d (.sl (z.ab.map Signed.enc)),.map 3,.d (.str q.name),.d (.int .i64 q.type),.d (.str cut),.d (.bool b),.d (.str w)],bC z] [.d (.int .i64 z.ab.length),.fn (.func 150) [] [.ptr 0 0,.ptr 1 0]] (fun x h=>x=.d (.int .i64 (iq (ji n) z.ab))/\h=[.cells [.ptr 2 0],.cells [.d (.str n)],.cells [.d (.str z.ad),.d (.sl (z.ab.map Signed.enc)),.map 3,.d (.str q.name),.d (.int .i64 q.type),.d (.str cut),.d (.bool b),.d (.str w)],bC z]):=by
 have c1:=fun i s hi=>Yn z q cut b w n hv hn (i:=i) (s:=s) hi;have hc:∀ i s,z.ab[i]?=some s->(ji n s=true↔i<iq (ji n) z.ab):=fun i s hi=>by rw[<- lt_iff hs hi];simp[ji]
 have eo:=xU (P:=ji n) (l:=z.ab);generalize iq (ji n) z.ab=m at *;unfold bC at *;refine aB.run ag (fn:=Tryz.f149) Tryz.func149 (body:=Tryz.f149.body.getD .skip) rfl (by decide) 2000 rfl ?_;(conv=>whnf);refine aa.loop (κ:=Nat × Nat) [5,6,7,9,10,11,12,13,14,15,16,17,18,19,20,21,22,23,24] (fun k=>[(5,.d (.int .i64 k.1)),(6,.d (.int .i64 k.2))]) (fun _=>[]) (fun k=>k.1<=m/\m<=k.2/\k.2<=z.ab.length) (fun k=>k.2-k.1) (0,z.ab.length) ⟨Nat.zero_le _,eo,Nat.le_refl _⟩ ?_ ?_
 ·exact sZ
 rintro⟨i,j⟩ ⟨k1,k2,k3⟩ IH;simp only at k1 k2 k3;refine aa.head ag F149 2000 ?_;(conv=>whnf);refine ar (fun h5=>?_) (fun h5=>?_)
 ·have ai:i<j:=by simpa using h5
  obtain⟨x,hx⟩:=bd (l:=z.ab) (k:=(i+j) / 2) (by omega);have Al:=OP (i:=i) (j:=j) (by omega);have AI:=hc _ x hx;refine gO F149 ?_;refine bA (by decide) ?_;refine gO F149 ?_;rw[show IntKind.i64.wrap (qS .shr .u64 (IntKind.u64.wrap (IntKind.i64.wrap (((i,j).fst:Int)+((i,j).snd:Int)))) (Int.toNat 1))=(((i+j) / 2:Nat):Int)from Al]
  with_reducible refine bJ (c1 _ x hx) ?_
  refine gO F149 ?_;cases h6:ji n x
  ·have:¬ (i+j) / 2<m:=fun e=>by rw[AI.2 e]at h6;cases h6
   refine aO (by decide) ?_;refine gO F149 ?_;refine aa.back (IH (i,(i+j) / 2) ⟨k1,by simp only;omega,by simp only;omega⟩ (by simp only;omega)) ?_;exact sZ
  ·have:=AI.1 h6;refine aI (by decide) ?_;refine gO F149 ?_;refine aa.back (IH ((i+j) / 2+1,j) ⟨by simp only;omega,k2,k3⟩ (by simp only;omega)) ?_;exact sZ
 ·have aG:i=m:=by simp at h5;omega
  subst aG;refine gO F149 ?_;exact⟨rfl,rfl⟩
theorem Yp(z:aP)(q:aM)(cut:Text)(b:Bool)(w n:Text)(hs:fe z.ab)(hl:z.ab.length<=1000000)(hv:∀ s∈z.ab,Nm.valid s.set.name=true)(hn:Nm.valid n=true):aB E 97 [bG z q cut b w,bC z] [.ptr 0 0,.d (.str n)] (fun x h=>x=.d (.bool (gJ z.ab n))/\h=[bG z q cut b w,bC z,.cells [.ptr 0 0],.cells [.d (.str n)]]):=by
 have c1:=Yo z q cut b w n hs hl hv hn;have hex:=X5 hs (n:=n);have eo:=xU (P:=ji n) (l:=z.ab);rw[hex];generalize iq (ji n) z.ab=m at *;clear hex;unfold bC at c1;unfold bG bC;refine aB.run ag (fn:=Tryz.f97) Tryz.func97 (body:=Tryz.f97.body.getD .skip) rfl (by decide) 2000 rfl ?_;(conv=>whnf);rw[show((z.ab.map Signed.enc).length:Int)=(z.ab.length:Int) by simp]
 with_reducible refine bJ (c1) ?_
 refine gO Tryz.func97 ?_;rcases Nat.lt_or_ge m z.ab.length with h1|h1
 ·obtain⟨x,hx⟩:=bd h1;have c2:=vM x.set.name n (hv x (List.mem_of_getElem? hx)) hn;rw[hx];refine aa.draw ag bN 21 2000 (by kernel_rfl) ?_;(conv=>whnf);refine aI (decide_eq_true (by simp;omega)) ?_;refine gD ?_;refine aC (e:=x.enc) (aS hx) rfl ?_;refine gD ?_;refine bj (c2) ?_;refine gD ?_;refine gS ?_;refine gO Tryz.func97 ?_;exact⟨rfl,rfl⟩
 ·rw[List.getElem?_eq_none h1];refine aa.draw ag bN 21 2000 (by kernel_rfl) ?_;(conv=>whnf);refine aO (decide_eq_false (by simp;omega)) ?_;refine gD ?_;refine gS ?_;refine gO Tryz.func97 ?_;exact⟨rfl,rfl⟩
def om(k:Int)(l:List Signed)(c:Text):DV := .agg [.int .i64 k,.sl (l.map Signed.enc),.str c]
theorem Yq{z:aP}{ps:List Int}{k:Nat}{p:Int}(hp:ps[k]?=some p){s:Signed}(h0:0<=p)(hs:z.ab[p.toNat]?=some s):bM z.ab (b8 (ps.take (k+1)))=if p∈ps.take k then bM z.ab (b8 (ps.take k))else bM z.ab (b8 (ps.take k))++[s]:=by
 rw[OS hp,OU h0 hs];have:p∈b8 (ps.take k)↔p∈ps.take k:=by rw[Hz];exact⟨fun h=>h.2,fun h=>⟨h0,h⟩⟩
 by_cases e:p∈ps.take k
 ·rw[if_pos e,if_pos (this.2 e)]
 ·rw[if_neg e,if_neg (fun h=>e (this.1 h))]
theorem Yr{ps:List Int}{k:Nat}{p:Int}(hp:ps[k]?=some p)(h0:p<0):b8 (ps.take (k+1))=b8 (ps.take k):=by
 rw[OS hp,du,if_pos (.inl h0)]
theorem Ys(z:aP)(q:aM)(cut:Text)(b:Bool)(w:Text)(kind:Int)(ps:List Int)(hf:z.gY)(eM:∀ p∈ps,p<z.ab.length)(hl:ps.length<=1000):aB E 96 [bG z q cut b w,bC z] [.ptr 0 0,.d (.int .i64 kind),.d (.sl (ps.map (.int .i64)))] (fun x h=>x=.d (om kind (bM z.ab (b8 ps)) [])/\h=[bG z q cut b w,bC z,.cells [.d (.int .i64 kind),.d (.sl ((bM z.ab (b8 ps)).map Signed.enc)),.d (.str [])],.cells [.d (.int .i64 kind),.d (.sl ((bM z.ab (b8 ps)).map Signed.enc)),.d (.str [])],.gone]):=by
 obtain⟨uT,iF⟩:=hf;unfold bG bC om;refine aB.run ag (fn:=Tryz.f96) Tryz.func96 (body:=Tryz.f96.body.getD .skip) rfl (by decide) 2000 rfl ?_;(conv=>whnf);refine aa.tz 3 1 (57,5) (by decide) rfl rfl ?_;(conv=>whnf);refine aa.loop (κ:=Nat) ([8,9,10]++rg 15 38) (fun k=>[(15,.d (.int .i64 k))]) (fun k=>[(3,.cells [.d (.int .i64 kind),.own 4 1,.d (.str [])]),(4,.arr 1 (57,5) ((bM z.ab (b8 (ps.take k))).map Signed.enc))]) (fun k=>k<=ps.length) (fun k=>ps.length-k) 0 (Nat.zero_le _) ?_ ?_
 ·(conv=>whnf);repeat (first|exact trivial|(refine sI ?_;conv=>whnf))
  refine And.intro rfl ?_;exact sZ
 intro k hk IH;refine aa.head ag F96 2000 ?_;(conv=>whnf);refine ar (fun h5=>?_) (fun h5=>?_)
 ·have ai:k<ps.length:=by simpa using h5
  obtain⟨p,hp⟩:=bd ai;refine gO F96 ?_;refine aC (e := .int .i64 p) (aS hp) rfl ?_;refine gO F96 ?_;refine ar (fun h6=>?_) (fun h6=>?_)
  ·have h0:=of_decide_eq_true h6;have bw:=Yr hp h0;refine gO F96 ?_;refine bp ?_;refine gO F96 ?_;refine aa.back (IH (k+1) (by omega) (by omega)) ?_;rw[bw];exact sZ
  ·have h0:=of_decide_eq_false h6;obtain⟨x,hx⟩:=bd (l:=z.ab) (k:=p.toNat) (by have:=eM p (List.mem_of_getElem? hp);omega);have bw:=Yq (z:=z) hp (by omega) hx;have iZ:List.drop ((none:Option Int).getD 0).toNat (List.take ((some (k:Int)).getD ((ps.map (DV.int .i64)).length:Int)).toNat (ps.map (DV.int .i64)))=(ps.take k).map (DV.int .i64):=by simp[List.map_take]
   have c1:=Ym (ps.take k) p (by simp;omega);have A1:kP (z.ab.map Signed.enc) p x.enc:=by
    have:=aS (f:=Signed.enc) hx
    rwa [Int.toNat_of_nonneg (by omega)]at this
   have iQ:=AE (l:=z.ab) (ps:=b8 (ps.take k));have jq:=HE (ps:=ps.take k);obtain⟨q1,q2⟩:=iF x (List.mem_of_getElem? hx);refine gO F96 ?_;refine bA ⟨by simp,by simp,by simp;omega,fun e he=>by obtain⟨y,_,rfl⟩:=List.mem_map.1 he;rfl⟩ ?_;(conv=>whnf);rw[iZ];refine gO F96 ?_;refine aj (c1) ?_;refine gO F96 ?_;by_cases dN:p∈ps.take k
   ·rw[if_pos dN]at bw;refine aI (decide_eq_true dN) ?_;refine gO F96 ?_;refine aa.back (IH (k+1) (by omega) (by omega)) ?_;rw[bw];exact sZ
   ·rw[if_neg dN]at bw;refine aO (decide_eq_false dN) ?_;refine gO F96 ?_;refine aC (e:=x.enc) A1 rfl ?_;refine gO F96 ?_;refine aj (XX (x.set.data.map Datum.enc) (by simpa using q1) (fun e h=>by obtain⟨d,_,rfl⟩:=List.mem_map.1 h;simp[DV.cells])) ?_;refine gO F96 ?_;refine aj (XY (x.sigs.map iS.enc) (by simpa using q2) (fun e h=>by obtain⟨d,_,rfl⟩:=List.mem_map.1 h;simp[DV.cells])) ?_;refine gO F96 ?_
    refine bA ⟨by have : (ps.take k).length <= 1000 := by{ rw[List.length_take];omega }
                  simp only[List.length_map, List.length_cons, List.length_nil];omega, by simp[DV.cells]⟩ ?_
    refine gO F96 ?_;refine aa.back (IH (k+1) (by omega) (by omega)) ?_;rw[bw];(conv=>whnf);repeat (first|exact trivial|(refine sI ?_;conv=>whnf))
    refine And.intro (by simp) ?_;exact sZ
 ·have aG:ps.length<=k:=by simpa using h5
  rw[List.take_of_length_le aG];(conv=>whnf);refine aa.freeze 4 ?_;(conv=>whnf);refine gO F96 ?_;exact⟨rfl,rfl⟩
theorem Yu(z:aP)(q:aM)(cut:Text)(b:Bool)(w n:Text)(hv:∀ s∈z.ab,Nm.valid s.set.name=true)(hn:Nm.valid n=true){i:Nat}{s:Signed}(hi:z.ab[i]?=some s):aB E 212 [.cells [.ptr 2 0],.cells [.d (.str n)],.cells [.d (.str z.ad),.d (.sl (z.ab.map Signed.enc)),.map 3,.d (.str q.name),.d (.int .i64 q.type),.d (.str cut),.d (.bool b),.d (.str w)],bC z] [.d (.int .i64 i),.ptr 0 0,.ptr 1 0] (fun x h=>x=.d (.bool (!iK n s))/\h=[.cells [.ptr 2 0],.cells [.d (.str n)],.cells [.d (.str z.ad),.d (.sl (z.ab.map Signed.enc)),.map 3,.d (.str q.name),.d (.int .i64 q.type),.d (.str cut),.d (.bool b),.d (.str w)],bC z]):=by
 have c1:=Pk s.set.name n (hv s (List.mem_of_getElem? hi)) hn;unfold bC;refine aB.run ag (fn:=Tryz.f212) Tryz.func212 (body:=Tryz.f212.body.getD .skip) rfl (by decide) 2000 rfl ?_;(conv=>whnf);refine aa.draw ag bN 13 2000 (by kernel_rfl) ?_;(conv=>whnf);refine aC (e:=s.enc) (aS hi) rfl ?_;refine gD ?_;refine bj (c1) ?_;refine gD ?_;refine gS ?_;refine gO Tryz.func212 ?_;refine⟨?_,rfl⟩;refine congrArg (fun b=>AV.d (DV.bool b)) ?_;unfold iK;rw[Bool.eq_iff_iff];simp
theorem Yv(z:aP)(q:aM)(cut:Text)(b:Bool)(w n:Text)(hs:fe z.ab)(hl:z.ab.length<=1000000)(hv:∀ s∈z.ab,Nm.valid s.set.name=true)(hn:Nm.valid n=true):aB E 149 [.cells [.ptr 2 0],.cells [.d (.str n)],.cells [.d (.str z.ad),.d (.sl (z.ab.map Signed.enc)),.map 3,.d (.str q.name),.d (.int .i64 q.type),.d (.str cut),.d (.bool b),.d (.str w)],bC z] [.d (.int .i64 z.ab.length),.fn (.func 212) [] [.ptr 0 0,.ptr 1 0]] (fun x h=>x=.d (.int .i64 (iq (iK n) z.ab))/\h=[.cells [.ptr 2 0],.cells [.d (.str n)],.cells [.d (.str z.ad),.d (.sl (z.ab.map Signed.enc)),.map 3,.d (.str q.name),.d (.int .i64 q.type),.d (.str cut),.d (.bool b),.d (.str w)],bC z]):=by
 have c1:=fun i s hi=>Yu z q cut b w n hv hn (i:=i) (s:=s) hi;have hc:∀ i s,z.ab[i]?=some s->(iK n s=true↔i<iq (iK n) z.ab):=fun i s hi=>by rw[<- le_iff hs hi];simp[iK]
 have eo:=xU (P:=iK n) (l:=z.ab);generalize iq (iK n) z.ab=m at *;unfold bC at *;refine aB.run ag (fn:=Tryz.f149) Tryz.func149 (body:=Tryz.f149.body.getD .skip) rfl (by decide) 2000 rfl ?_;(conv=>whnf);refine aa.loop (κ:=Nat × Nat) [5,6,7,9,10,11,12,13,14,15,16,17,18,19,20,21,22,23,24] (fun k=>[(5,.d (.int .i64 k.1)),(6,.d (.int .i64 k.2))]) (fun _=>[]) (fun k=>k.1<=m/\m<=k.2/\k.2<=z.ab.length) (fun k=>k.2-k.1) (0,z.ab.length) ⟨Nat.zero_le _,eo,Nat.le_refl _⟩ ?_ ?_
 ·exact sZ
 rintro⟨i,j⟩ ⟨k1,k2,k3⟩ IH;simp only at k1 k2 k3;refine aa.head ag F149 2000 ?_;(conv=>whnf);refine ar (fun h5=>?_) (fun h5=>?_)
 ·have ai:i<j:=by simpa using h5
  obtain⟨x,hx⟩:=bd (l:=z.ab) (k:=(i+j) / 2) (by omega);have Al:=OP (i:=i) (j:=j) (by omega);have AI:=hc _ x hx;refine gO F149 ?_;refine bA (by decide) ?_;refine gO F149 ?_;rw[show IntKind.i64.wrap (qS .shr .u64 (IntKind.u64.wrap (IntKind.i64.wrap (((i,j).fst:Int)+((i,j).snd:Int)))) (Int.toNat 1))=(((i+j) / 2:Nat):Int)from Al]
  with_reducible refine bJ (c1 _ x hx) ?_
  refine gO F149 ?_;cases h6:iK n x
  ·have:¬ (i+j) / 2<m:=fun e=>by rw[AI.2 e]at h6;cases h6
   refine aO (by decide) ?_;refine gO F149 ?_;refine aa.back (IH (i,(i+j) / 2) ⟨k1,by simp only;omega,by simp only;omega⟩ (by simp only;omega)) ?_;exact sZ
  ·have:=AI.1 h6;refine aI (by decide) ?_;refine gO F149 ?_;refine aa.back (IH ((i+j) / 2+1,j) ⟨by simp only;omega,k2,k3⟩ (by simp only;omega)) ?_;exact sZ
 ·have aG:i=m:=by simp at h5;omega
  subst aG;refine gO F149 ?_;exact⟨rfl,rfl⟩
theorem Yw(z:aP)(q:aM)(cut:Text)(b:Bool)(w n:Text):aB E 152 [bG z q cut b w,bC z] [.ptr 0 0,.d (.str n)] (fun x h=>x=.fn (.func 211) [] [.ptr 2 0,.ptr 3 0]/\h=[bG z q cut b w,bC z,.cells [.ptr 0 0],.cells [.d (.str n)]]):=by
 unfold bG bC;refine aB.run ag (fn:=Tryz.f152) Tryz.func152 (body:=Tryz.f152.body.getD .skip) rfl (by decide) 2000 rfl ?_;(conv=>whnf);exact⟨rfl,rfl⟩
theorem Yx{P:Nat->Bool}{k:Nat}:fI P (k+1)=if P k then(k:Int)else fI P k:=rfl
theorem Yy(z:aP)(q:aM)(cut:Text)(b:Bool)(w n:Text)(hs:fe z.ab)(hl:z.ab.length<=1000000)(hv:∀ s∈z.ab,Nm.valid s.set.name=true)(hn:Nm.valid n=true):aB E 99 [bG z q cut b w,bC z] [.ptr 0 0,.d (.str n)] (fun x h=>x=.d (.int .i64 (cK z.ab n))/\h=[bG z q cut b w,bC z,.cells [.ptr 0 0],.cells [.d (.int .i64 (cK z.ab n))],.cells [.ptr 0 0],.cells [.d (.str n)]]):=by
 have c1:=Yw z q cut b w n;have c2:=Yv z q cut b w n hs hl hv hn;have eo:=xU (P:=iK n) (l:=z.ab);unfold cK;generalize iq (iK n) z.ab=m at *;unfold bC at c2;unfold bG bC at c1;unfold bG bC;refine aB.run ag (fn:=Tryz.f99) Tryz.func99 (body:=Tryz.f99.body.getD .skip) rfl (by decide) 2000 rfl ?_;conv=>whnf
 with_reducible refine bJ (c1) ?_
 refine gO F99 ?_;refine aa.rangeFunc (bg rfl) Tryz.func211 rfl (by decide) rfl (fun ll d t=>?_);refine gO F211 ?_;rw[show((z.ab.map Signed.enc).length:Int)=(z.ab.length:Int) by simp]
 with_reducible refine bJ (c2) ?_
 refine gO F211 ?_;refine aa.loop (κ:=Nat) ([5]++rg 15 8) (fun k=>[(5,.d (.int .i64 ((k:Int)-1)))]) (fun k=>[]) (fun k=>k<=m/\fI (rQ z.ab) m=fI (rQ z.ab) k) (fun k=>k) m ⟨Nat.le_refl _,rfl⟩ ?_ ?_
 ·exact sZ
 rintro k ⟨hk,oo⟩ IH;refine aa.head ag F211 2000 ?_;(conv=>whnf);refine ar (fun h5=>?_) (fun h5=>?_)
 ·have h5:=of_decide_eq_true h5;obtain⟨k,rfl⟩:∃ j,k=j+1:=⟨k-1,by omega⟩;obtain⟨x,hx⟩:=bd (l:=z.ab) (k:=k) (by omega);have A1:kP (z.ab.map Signed.enc) (((k+1:Nat):Int)-1) x.enc:=by
   rw[show(((k+1:Nat):Int)-1)=(k:Int) by omega];exact aS hx
  have hw:IntKind.i64.wrap ((((k+1:Nat):Int)-1)-1)=(k:Int)-1:=by rw[wrap64 (by omega) (by omega)];omega
  have mY:rQ z.ab k=(x.set.type==8):=by simp[rQ,hx]
  rw[Yx,mY]at oo;refine gO F211 ?_;refine aa.yield 0 rfl rfl rfl (bg rfl) (kq (bg rfl)) rfl ?_;(conv=>whnf);refine gO F99 ?_;refine aa.begin 0 rfl rfl rfl ?_;(conv=>whnf);refine gO F99 ?_;refine aC (e:=x.enc) A1 rfl ?_;refine gO F99 ?_;cases ht:(x.set.type==8)
  ·rw[ht]at oo;refine aY ?_;refine gO F99 ?_;refine aa.Ay 0 rfl rfl rfl ?_;(conv=>whnf);refine gO F211 ?_;refine aO (by decide) ?_;refine gO F211 ?_;refine aa.back (IH k ⟨by omega,oo⟩ (by omega)) ?_;exact sZ
  ·rw[ht]at oo;refine bp ?_;refine gO F99 ?_;refine aa.XN 0 rfl rfl rfl ?_;(conv=>whnf);refine gO F211 ?_;refine aI (by decide) ?_;refine gO F211 ?_;refine aa.xR ag F211 rfl rfl rfl rfl (fun e=>nomatch e) ?_;(conv=>whnf);refine gO F99 ?_;refine aa.Ht ag F99 rfl rfl rfl rfl rfl ?_;(conv=>whnf);rw[oo,if_pos rfl,show(((k+1:Nat):Int)-1)=(k:Int) by omega];exact⟨rfl,rfl⟩
 ·have aG:k=0:=by have:=of_decide_eq_false h5;omega
  subst aG;refine gO F211 ?_;refine aa.xR ag F211 rfl rfl rfl rfl (fun e=>nomatch e) ?_;(conv=>whnf);refine gO F99 ?_;refine aa.Ht ag F99 rfl rfl rfl rfl rfl ?_;(conv=>whnf);rw[oo];exact⟨rfl,rfl⟩
theorem AK(z:aP)(q:aM)(cut:Text)(b:Bool)(w n:Text)(V:ey z)(hn:Nm.valid n=true):aB E 97 [bG z q cut b w,bC z] [.ptr 0 0,.d (.str n)] (fun x h=>x=.d (.bool (gJ z.ab n))/\h=[bG z q cut b w,bC z]) :=
 aB.rU (Yp z q cut b w n V.sorted (by have:=V.len;omega) V.names hn) rfl rfl
theorem vN(z:aP)(q:aM)(cut:Text)(b:Bool)(w n:Text)(V:ey z)(hn:Nm.valid n=true):aB E 99 [bG z q cut b w,bC z] [.ptr 0 0,.d (.str n)] (fun x h=>x=.d (.int .i64 (cK z.ab n))/\h=[bG z q cut b w,bC z]) :=
 aB.rU (Yy z q cut b w n V.sorted (by have:=V.len;omega) V.names hn) rfl rfl
theorem my(z:aP)(q:aM)(cut:Text)(b:Bool)(w:Text)(kind:Int)(ps:List Int)(hf:z.gY)(eM:∀ p∈ps,p<z.ab.length)(hl:ps.length<=1000):aB E 96 [bG z q cut b w,bC z] [.ptr 0 0,.d (.int .i64 kind),.d (.sl (ps.map (.int .i64)))] (fun x h=>x=.d (om kind (bM z.ab (b8 ps)) [])/\h=[bG z q cut b w,bC z]) :=
 aB.rU (Ys z q cut b w kind ps hf eM hl) rfl rfl
theorem Yz(z:aP)(q:aM)(cut:Text)(b:Bool)(w:Text)(V:ey z)(hf:z.gY):aB E 54 [bG z q cut b w,bC z] [.ptr 0 0] (fun x h=>x=.aJ [.d (om 1 (bM z.ab (b8 [aq z.ab q])) []),.d (.bool (decide (aq z.ab q>=0)))]/\h=[bG z q cut b w,bC z]):=by
 have c1:=rT z q cut b w q.name q.type V.sorted;have c2:=my z q cut b w 1 [aq z.ab q] hf (fun p hp=>by simp at hp;subst hp;exact ga.2) (by simp);simp only[List.map_cons,List.map_nil]at c2;unfold bG bC at c1 c2;apply aB.rU
 case hk=>rfl
 case hc =>
  unfold bG bC;refine aB.run ag (fn:=Tryz.f54) Tryz.func54 (body:=Tryz.f54.body.getD .skip) rfl (by decide) 2000 rfl ?_;(conv=>whnf);refine aa.draw ag bN 13 2000 (by kernel_rfl) ?_;(conv=>whnf);refine cg.km (ah:=[0,1]) c1 rfl rfl fz (qs (bg rfl) (bg rfl) (bg rfl)) (by decide) (by simp) rfl rfl rfl ?_;refine gD ?_;refine gS ?_;refine gO Tryz.func54 ?_
  with_reducible refine bJ (c2) ?_
  refine gO Tryz.func54 ?_;exact⟨rfl,rfl⟩
 case hr=>rfl
theorem YA(z:aP)(q:aM)(cut:Text)(b:Bool)(w:Text)(V:ey z)(hf:z.gY):aB E 55 [bG z q cut b w,bC z] [.ptr 0 0] (fun x h=>x=.aJ [.d (om 3 (bM z.ab (b8 [aq z.ab ⟨q.name,3⟩])) []),.d (.bool (decide (aq z.ab ⟨q.name,3⟩>=0)&&(q.type != 8)))]/\h=[bG z q cut b w,bC z]):=by
 have c1:=rT z q cut b w q.name 3 V.sorted;have ai:=(ga (l:=z.ab) (q:=⟨q.name,3⟩)).2;generalize aq z.ab ⟨q.name,3⟩=i at *;have c2:=my z q cut b w 3 [i] hf (fun p hp=>by simp at hp;subst hp;exact ai) (by simp);simp only[List.map_cons,List.map_nil]at c2;unfold bG bC at c1 c2;apply aB.rU
 case hk=>rfl
 case hc =>
  unfold bG bC;refine aB.run ag (fn:=Tryz.f55) Tryz.func55 (body:=Tryz.f55.body.getD .skip) rfl (by decide) 2000 rfl ?_;conv=>whnf
  with_reducible refine bJ (c1) ?_
  refine gO Tryz.func55 ?_;refine aa.tw ag bN [0,1,2,4,5,6,7,8,9,10,11,12,13] [2] 2000 (by kernel_rfl) ?_;(conv=>whnf);refine aU.run ag 2000 rfl rfl ?_;(conv=>whnf);refine oQ (c2) ?_;(conv=>whnf);refine And.intro rfl ?_;(conv=>whnf);refine aU.run ag 2000 rfl rfl ?_;(conv=>whnf);by_cases h:i>=0
  ·refine aI (decide_eq_true h) ?_;(conv=>whnf);refine aU.run ag 2000 rfl rfl ?_;(conv=>whnf);refine And.intro rfl ?_;(conv=>whnf);refine aU.run ag 2000 rfl rfl ?_;(conv=>whnf);refine And.intro rfl ?_;(conv=>whnf);refine aU.run ag 2000 rfl rfl ?_;(conv=>whnf);refine gO Tryz.func55 ?_;rw[decide_eq_true h,Bool.true_and];exact⟨rfl,rfl⟩
  ·refine aO (decide_eq_false h) ?_;(conv=>whnf);refine aU.run ag 2000 rfl rfl ?_;(conv=>whnf);refine And.intro rfl ?_;(conv=>whnf);refine aU.run ag 2000 rfl rfl ?_;(conv=>whnf);refine And.intro rfl ?_;(conv=>whnf);refine aU.run ag 2000 rfl rfl ?_;(conv=>whnf);refine gO Tryz.func55 ?_;rw[decide_eq_false h,Bool.false_and];exact⟨rfl,rfl⟩
 case hr=>rfl
theorem Pn(z:aP)(q:aM)(cut:Text)(b:Bool)(w:Text)(V:ey z)(hf:z.gY)(hq:Nm.valid q.name=true):aB E 57 [bG z q cut b w,bC z] [.ptr 0 0] (fun x h=>x=.aJ [.d (om 2 (bM z.ab (b8 [aq z.ab ⟨w,q.type⟩,cK z.ab q.name])) []),.d (.bool (decide (aq z.ab ⟨w,q.type⟩>=0)))]/\h=[bG z q cut b w,bC z]):=by
 have c1:=rT z q cut b w w q.type V.sorted;have c3:=vN z q cut b w q.name V hq;have ai:=(ga (l:=z.ab) (q:=⟨w,q.type⟩)).2;have ki:=(tA (l:=z.ab) (n:=q.name)).2;generalize aq z.ab ⟨w,q.type⟩=i at *;generalize cK z.ab q.name=j at *;have c2:=my z q cut b w 2 [i,j] hf (fun p hp=>by simp at hp;rcases hp with rfl|rfl<;>assumption) (by simp);simp only[List.map_cons,List.map_nil]at c2;unfold bG bC at c1 c2 c3;apply aB.rU
 case hk=>rfl
 case hc =>
  unfold bG bC;refine aB.run ag (fn:=Tryz.f57) Tryz.func57 (body:=Tryz.f57.body.getD .skip) rfl (by decide) 2000 rfl ?_;(conv=>whnf);refine aa.draw ag bN 12 2000 (by kernel_rfl) ?_;(conv=>whnf);refine cg.km (ah:=[0,1]) c1 rfl rfl fz (qs (bg rfl) (bg rfl) (bg rfl)) (by decide) (by simp) rfl rfl rfl ?_;refine gD ?_;refine gS ?_;refine gO Tryz.func57 ?_
  with_reducible refine bJ (c3) ?_
  refine gO Tryz.func57 ?_
  with_reducible refine bJ (c2) ?_
  refine gO Tryz.func57 ?_;exact⟨rfl,rfl⟩
 case hr=>rfl
theorem Po(z:aP)(q:aM)(cut:Text)(b:Bool)(w:Text)(V:ey z)(hf:z.gY)(hq:Nm.valid q.name=true):aB E 58 [bG z q cut b w,bC z] [.ptr 0 0] (fun x h=>x=.aJ [.d (om 3 (bM z.ab (b8 [aq z.ab ⟨w,3⟩,cK z.ab q.name])) []),.d (.bool (decide (aq z.ab ⟨w,3⟩>=0)&&(q.type != 8)))]/\h=[bG z q cut b w,bC z]):=by
 have c1:=rT z q cut b w w 3 V.sorted;have c3:=vN z q cut b w q.name V hq;have ai:=(ga (l:=z.ab) (q:=⟨w,3⟩)).2;have ki:=(tA (l:=z.ab) (n:=q.name)).2;generalize aq z.ab ⟨w,3⟩=i at *;generalize cK z.ab q.name=j at *;have c2:=my z q cut b w 3 [i,j] hf (fun p hp=>by simp at hp;rcases hp with rfl|rfl<;>assumption) (by simp);simp only[List.map_cons,List.map_nil]at c2;unfold bG bC at c1 c2 c3;apply aB.rU
 case hk=>rfl
 case hc =>
  unfold bG bC;refine aB.run ag (fn:=Tryz.f58) Tryz.func58 (body:=Tryz.f58.body.getD .skip) rfl (by decide) 2000 rfl ?_;conv=>whnf
  with_reducible refine bJ (c1) ?_
  refine gO Tryz.func58 ?_;refine aa.tw ag bN [0,1,2,3,4,5,6,7,9,11,12,13,14,15,16,17,18,19,20] [2] 2000 (by kernel_rfl) ?_;(conv=>whnf);refine aU.run ag 2000 rfl rfl ?_;(conv=>whnf);refine oQ (c3) ?_;(conv=>whnf);refine And.intro rfl ?_;(conv=>whnf);refine aU.run ag 2000 rfl rfl ?_;(conv=>whnf);refine oQ (c2) ?_;(conv=>whnf);refine And.intro rfl ?_;(conv=>whnf);refine aU.run ag 2000 rfl rfl ?_;(conv=>whnf);by_cases h:i>=0
  ·refine aI (decide_eq_true h) ?_;(conv=>whnf);refine aU.run ag 2000 rfl rfl ?_;(conv=>whnf);refine And.intro rfl ?_;(conv=>whnf);refine aU.run ag 2000 rfl rfl ?_;(conv=>whnf);refine And.intro rfl ?_;(conv=>whnf);refine aU.run ag 2000 rfl rfl ?_;(conv=>whnf);refine gO Tryz.func58 ?_;rw[decide_eq_true h,Bool.true_and];exact⟨rfl,rfl⟩
  ·refine aO (decide_eq_false h) ?_;(conv=>whnf);refine aU.run ag 2000 rfl rfl ?_;(conv=>whnf);refine And.intro rfl ?_;(conv=>whnf);refine aU.run ag 2000 rfl rfl ?_;(conv=>whnf);refine And.intro rfl ?_;(conv=>whnf);refine aU.run ag 2000 rfl rfl ?_;(conv=>whnf);refine gO Tryz.func58 ?_;rw[decide_eq_false h,Bool.false_and];exact⟨rfl,rfl⟩
 case hr=>rfl
theorem Pp(z:aP)(q:aM)(cut:Text)(b:Bool)(w:Text)(V:ey z)(hf:z.gY)(hq:Nm.valid q.name=true)(hw:w=[]\/Nm.valid w=true):aB E 60 [bG z q cut b w,bC z] [.ptr 0 0] (fun x h=>x=.d (om 6 (bM z.ab (b8 (if w=[]then[aq z.ab ⟨z.ad,4⟩,cK z.ab q.name,-1]else[aq z.ab ⟨z.ad,4⟩,cK z.ab q.name,cK z.ab w]))) [])/\h=[bG z q cut b w,bC z]):=by
 have c1:=H4 z q cut b w V.sorted;have c3:=vN z q cut b w q.name V hq;have ai:=(ga (l:=z.ab) (q:=⟨z.ad,4⟩)).2;have ki:=(tA (l:=z.ab) (n:=q.name)).2;have AL:=(tA (l:=z.ab) (n:=w)).2;generalize aq z.ab ⟨z.ad,4⟩=i at *;by_cases he:w=[]
 ·rw[if_pos he];generalize cK z.ab q.name=j at *;have c2:=my z q cut b w 6 [i,j,-1] hf (fun p hp=>by simp at hp;rcases hp with rfl|rfl|rfl<;>first|assumption|omega) (by simp);simp only[List.map_cons,List.map_nil]at c2;unfold bG bC at c1 c2 c3;apply aB.rU
  case hk=>rfl
  case hc =>
   unfold bG bC;refine aB.run ag (fn:=Tryz.f60) Tryz.func60 (body:=Tryz.f60.body.getD .skip) rfl (by decide) 2000 rfl ?_;(conv=>whnf);refine aO (by simp[he]) ?_;refine gO Tryz.func60 ?_;refine aa.draw ag bN 13 2000 (by kernel_rfl) ?_;(conv=>whnf);refine cg.km (ah:=[0,1]) c1 rfl rfl fz (kq (bg rfl)) (by decide) (by simp) rfl rfl rfl ?_;refine gD ?_;refine cg.km (ah:=[0,1]) c3 rfl rfl fz (mw (bg rfl) (bg rfl)) (by decide) (by simp) rfl rfl rfl ?_;refine gD ?_;refine cg.km (ah:=[0,1]) c2 rfl rfl fz (qs (bg rfl) qp (bg rfl)) (by decide) (by simp) rfl rfl rfl ?_;refine gD ?_;refine gS ?_;refine gO Tryz.func60 ?_;exact⟨rfl,rfl⟩
  case hr=>rfl
 ·have c4:=vN z q cut b w w V (hw.resolve_left he);rw[if_neg he];generalize cK z.ab q.name=j at *;generalize cK z.ab w=m at *;have c2:=my z q cut b w 6 [i,j,m] hf (fun p hp=>by simp at hp;rcases hp with rfl|rfl|rfl<;>assumption) (by simp);simp only[List.map_cons,List.map_nil]at c2;unfold bG bC at c1 c2 c3 c4;apply aB.rU
  case hk=>rfl
  case hc =>
   unfold bG bC;refine aB.run ag (fn:=Tryz.f60) Tryz.func60 (body:=Tryz.f60.body.getD .skip) rfl (by decide) 2000 rfl ?_;(conv=>whnf);refine aI (by simp[he]) ?_;refine gO Tryz.func60 ?_
   with_reducible refine bJ (c4) ?_
   refine gO Tryz.func60 ?_;refine aa.draw ag bN 13 2000 (by kernel_rfl) ?_;(conv=>whnf);refine cg.km (ah:=[0,1]) c1 rfl rfl fz (kq (bg rfl)) (by decide) (by simp) rfl rfl rfl ?_;refine gD ?_;refine cg.km (ah:=[0,1]) c3 rfl rfl fz (mw (bg rfl) (bg rfl)) (by decide) (by simp) rfl rfl rfl ?_;refine gD ?_;refine cg.km (ah:=[0,1]) c2 rfl rfl fz (qs (bg rfl) qp (bg rfl)) (by decide) (by simp) rfl rfl rfl ?_;refine gD ?_;refine gS ?_;refine gO Tryz.func60 ?_;exact⟨rfl,rfl⟩
  case hr=>rfl
end Go.Proofs.YtcmnpelmmekdkaaGreatDoor.P
end
section
namespace Go.Proofs.YtcmnpelmmekdkaaGreatDoor.P
open Go Go.aA Go.RowKit
set_option maxRecDepth 100000
set_option maxHeartbeats 4000000
theorem Pr{ak:Nat->Prop}{w:World}{x y:DV}{vs:List Value}(h:jT ak w [x,y] vs):∃ u v,vs=[u,v]/\VD ak w x u/\VD ak w y v:=by
 obtain⟨hl,hv⟩:=h;obtain⟨u,v,rfl⟩:∃ u v,vs=[u,v]:=by
  match vs,hl with
  |[u,v],_=>exact⟨u,v,rfl⟩
 exact⟨u,v,rfl,hv 0 x u rfl rfl,hv 1 y v rfl rfl⟩
theorem YD{w w':World}(h:Below w.heap.size w w'):Ext w w':=⟨h.os,h.tape,h.output,h.size,h.block⟩
theorem YE(t:Text)(c:UInt8):au E 142 [.str t,.int .u8 c.toNat] (· = .int .i64 (Lib.indexByte t c)):=by
 unfold au;refine⟨⟨_,Tryz.func142,rfl,by decide⟩,fun ak w vs _ _ hv=>?_⟩;obtain⟨u,v,rfl,h1,h2⟩:=Pr hv;cases h1;cases h2;have:=Any.strings_IndexByte Tryz.YC ⟨t.toArray⟩ (c.toNat:Int) w;refine this.mono fun e w' ⟨h1,h2⟩=>⟨_,_,h1,rfl,?_,by rw[h2];exact Ext.refl w⟩;rw[show(ByteArray.mk t.toArray).data.toList=t by simp,show((c.toNat:Int)).toNat.toUInt8=c by simp];exact .int _ _
theorem H6:∀ (L:List Text),Lib.join L [46]=Nm.glue L
 |[]=>rfl
 |[x]=>by simp[Lib.join,List.intercalate,Nm.glue]
 |x::y::t=>by
  have:=H6 (y::t);unfold Lib.join at this ⊢;rw[Nm.glue,<- this];simp[List.intercalate]
theorem YF(L:List Text)(hl:L.length<=1000)(hb:(Nm.glue L).length<=1000000):au E 213 [.sl (L.map .str),.str [46]] (· = .str (Nm.glue L)):=by
 unfold au;refine⟨⟨_,Tryz.func213,rfl,by decide⟩,fun ak w vs _ _ hv=>?_⟩;obtain⟨u,v,rfl,h1,h2⟩:=Pr hv;cases h2;have oq:(L.map fun x=>ByteArray.mk x.toArray).map (·.data.toList)=L:=by simp[Function.comp_def]
 have fin:∀ e w',(e=Ending.returned (.string ⟨(Lib.join ((L.map fun x=>ByteArray.mk x.toArray).map (·.data.toList)) (ByteArray.mk [46].toArray).data.toList).toArray⟩)/\Below w.heap.size w w')->∃ v r,e=.returned v/\r=DV.str (Nm.glue L)/\VD (fun b=>ak b) w' r v/\Ext w w':=fun e w' ⟨h1,h2⟩=>by
  refine⟨_,_,h1,rfl,?_,YD h2⟩;rw[oq,show(ByteArray.mk [46].toArray).data.toList=[46] by simp,H6];exact .str _
 generalize hD:L.map DV.str=D at h1;cases h1 with
 |slnil =>
  have hn:L=[]:=List.map_eq_nil_iff.1 hD;subst hn;exact(Any.strings_Join_none Tryz.Dh Tryz.Di none 0 ⟨#[46]⟩ w).mono fun e w' ⟨q1,q2⟩=>fin e w' ⟨q1,q2 ▸ Below.refl _ _⟩
 |kZ a =>
  have hn:L=[]:=List.map_eq_nil_iff.1 hD;subst hn;exact(Any.strings_Join_none Tryz.Dh Tryz.Di (some a) 0 ⟨#[46]⟩ w).mono fun e w' ⟨q1,q2⟩=>fin e w' ⟨q1,q2 ▸ Below.refl _ _⟩
 |sl _ blk off cap sz f tB bS jm hlen dP bW cj =>
  subst hD;by_cases hn:L=[]
  ·subst hn;exact(Any.strings_Join_none Tryz.Dh Tryz.Di (some ⟨blk,off,none⟩) cap ⟨#[46]⟩ w).mono fun e w' ⟨q1,q2⟩=>fin e w' ⟨q1,q2 ▸ Below.refl _ _⟩
  ·have wv:∀ (j:Nat) x,(L.map fun x=>ByteArray.mk x.toArray)[j]?=some x->w.cell? ⟨blk,off+j,none⟩=some (.string x):=fun j x hx=>by
    rw[List.getElem?_map]at hx;cases e:L[j]? with
    |none=>rw[e]at hx;cases hx
    |some t =>
     rw[e]at hx;cases hx;have e1:(L.map DV.str)[j]?=some (.str t):=by rw[List.getElem?_map,e];rfl
     have uT:sz=1:=(hlen j _ e1).symm;have c1:=dP j 0 (.str t) (.str t) e1 rfl;have v1:=bW j 0 (.str t) (.str t) e1 rfl;rw[uT,Nat.mul_one,Nat.add_zero]at c1;rw[c1];generalize f j 0=u at v1;cases v1;rfl
   obtain⟨t,r,rfl⟩:=List.exists_cons_of_ne_nil hn;have YG:blk<w.heap.size:=World.block_lt_of_cell? _ _ (wv 0 ⟨t.toArray⟩ rfl);have:=Any.strings_Join Tryz.Dh Tryz.Di blk off cap ((t::r).map fun x=>ByteArray.mk x.toArray) ⟨#[46]⟩ w wv YG (by simp at hl ⊢;omega) (by simpa using jm) (by rw[oq,show(ByteArray.mk [46].toArray).data.toList=[46] by simp,H6];omega);rw[List.length_map]at this;rw[List.length_map];exact this.mono fun e w' h=>fin e w' h
theorem YH(t:Text):au E 112 [.str t] (· = .bool (Nm.label t)):=by
 unfold au;refine⟨⟨_,Tryz.func112,rfl,by decide⟩,fun ak w vs _ _ hv=>?_⟩;obtain⟨hl,hv⟩:=hv;obtain⟨u,rfl⟩:∃ u,vs=[u]:=by
  match vs,hl with
  |[u],_=>exact⟨u,rfl⟩
 have h1:=hv 0 (.str t) u rfl rfl;cases h1;refine(Gp ⟨t.toArray⟩ w).mono fun e w' ⟨h1,h2⟩=>⟨_,_,h1,rfl,?_,by rw[h2];exact Ext.refl _⟩;rw[kf];exact .bool _
theorem YI(t:Text)(ht:t.length<=maxLen):au E 72 [.str t] (· = .bool (Nm.valid t)) :=
 zT (g:=fun t => .bool (Nm.valid t)) t ⟨_,Tryz.func72,rfl,by decide⟩ fun w=>(iI ⟨t.toArray⟩ w (size_mk ht)).mono fun e w' ⟨h1,h2⟩=>⟨_,h1,fun _ _=>by rw[kf];exact .bool _,h2⟩
def gK(i:Nat)(x:Text):Bool:=Nm.label x||(decide (i=0)&&decide (x=[42]))
theorem na{L:List Text}:Nm.parts L=true↔L.length<=8/\∀ i x,L[i]?=some x->gK i x=true:=by
 cases L with
 |nil=>simp[Nm.parts]
 |cons a r =>
  simp only[Nm.parts,Bool.and_eq_true,decide_eq_true_eq,List.all_eq_true];constructor
  ·rintro⟨h1,h2,h3⟩;refine⟨h1,fun i x hx=>?_⟩;cases i with
   |zero=>simp at hx;subst hx;simpa [gK]using h2
   |succ i=>simp at hx;simp[gK,h3 x (List.mem_of_getElem? hx)]
  ·rintro⟨h1,h2⟩;refine⟨h1,by simpa [gK]using h2 0 a rfl,fun x hx=>?_⟩;obtain⟨i,hi⟩:=List.getElem?_of_mem hx
   simpa [gK]using h2 (i+1) x (by simpa using hi)
theorem H7:∀ {L:List Text},(∀ t∈L,t.length<=100)->(Nm.glue L).length<=L.length*101
 |[],_=>by simp[Nm.glue]
 |[x],h=>by have:=h x (by simp);simp[Nm.glue];omega
 |x::y::t,h=>by
  have h1:=h x (by simp);have h2:=H7 (L:=y::t) fun u hu=>h u (List.mem_cons_of_mem _ hu);rw[Nm.glue];simp only[List.length_append,List.length_cons]at h2 ⊢;omega
theorem YJ(L:List Text)(hl:L.length<=1000)(hb:∀ t∈L,t.length<=100):au E 154 [.sl (L.map .str)] (· = match jI L with|some t => .aJ [.str t,.int .i64 0]|none => .aJ [.str [],.int .i64 11]):=by
 have no:Nm.parts L=false->jI L=none:=fun e=>by rw[jI,e];rfl
 have c2:=fun h=>YF L hl h;refine eP F154 ?_;by_cases h0:L=[]
 ·subst h0;have e:jI []=some [46]:=by decide
  rw[e];refine aI (by decide) ?_;refine gO F154 ?_
  with_reducible rfl
 refine aO (by simpa using h0) ?_;refine gO F154 ?_;refine ar (fun h1=>?_) (fun h1=>?_)
 ·have h1:=of_decide_eq_true h1
  rw[no (by
   cases e:Nm.parts L
   ·rfl
   ·have:=(na.1 e).1;simp at h1
    omega)]
  refine gO F154 ?_
  with_reducible rfl
 have YK:L.length<=8:=by have:=of_decide_eq_false h1;simp at this;omega
 refine gO F154 ?_;refine aa.loop (κ:=Nat) (rg 2 4++rg 15 17) (fun k=>[(15,.d (.int .i64 k))]) (fun _=>[]) (fun k=>k<=L.length/\∀ i x,i<k->L[i]?=some x->gK i x=true) (fun k=>L.length-k) 0 ⟨Nat.zero_le _,fun i x h=>by omega⟩ ?_ ?_
 ·exact sZ
 rintro k ⟨hk,aW⟩ IH;refine aa.head ag F154 2000 ?_;(conv=>whnf);refine ar (fun h5=>?_) (fun h5=>?_)
 ·have ai:k<L.length:=by simpa using h5
  obtain⟨x,hx⟩:=bd ai
  have bad:gK k x=false->jI L=none:=fun e=>no (by
   cases e2:Nm.parts L
   ·rfl
   ·have:=(na.1 e2).2 k x hx
    rw[e]at this;cases this)
  have good:gK k x=true->∀ i y,i<k+1->L[i]?=some y->gK i y=true:=fun e i y hi hy=>by
   rcases Nat.lt_or_eq_of_le (Nat.le_of_lt_succ hi)with h|h
   ·exact aW i y h hy
   ·subst h;rw[hx]at hy;cases hy;exact e
  refine gO F154 ?_;refine aC (e := .str x) (aS hx) rfl ?_;refine gO F154 ?_;refine aj (YH x) ?_;refine gO F154 ?_;cases mi:Nm.label x
  ·refine bp ?_;refine gO F154 ?_;refine ar (fun h6=>?_) (fun h6=>?_)
   ·have h6:=of_decide_eq_true h6;refine gO F154 ?_;refine bp ?_;refine gO F154 ?_;rw[bad (by simp[gK,mi];omega)]
   ·have h6:=of_decide_eq_false h6;refine gO F154 ?_;by_cases h7:x=[42]
    ·refine aO (by simpa using h7) ?_;refine gO F154 ?_;refine aa.back (IH (k+1) ⟨by omega,good (by simp[gK,h7];omega)⟩ (by omega)) ?_;exact sZ
    ·refine aI (by simpa using h7) ?_;refine gO F154 ?_;rw[bad (by simp[gK,mi,h7])]
  ·refine aY ?_;refine gO F154 ?_;refine aY ?_;refine gO F154 ?_;refine aa.back (IH (k+1) ⟨by omega,good (by simp[gK,mi])⟩ (by omega)) ?_;exact sZ
 ·have aG:k=L.length:=by simp at h5;omega
  subst aG;have hp:Nm.parts L=true:=na.2 ⟨YK,fun i x hx=>aW i x (List.getElem?_eq_some_iff.1 hx).1 hx⟩;have nL:fQ L=Nm.glue L:=by rw[fQ,if_neg h0]
  have iQ:=H7 hb;have c2:=c2 (by omega);clear IH;unfold jI;rw[hp,nL,Bool.true_and];refine gO F154 ?_;refine aj (c2) ?_;refine gO F154 ?_;refine ar (fun h6=>?_) (fun h6=>?_)
  ·have h6:=of_decide_eq_true h6;refine gO F154 ?_;rw[decide_eq_false (by omega)];rfl
  ·have h6:=of_decide_eq_false h6;refine gO F154 ?_;rw[decide_eq_true (by omega)];rfl
theorem Ps:∀ (t:Text),(∀ r,Nm.split t=[r]->Lib.indexByte t 46 = -1/\t=r)/\∀ x y r,Nm.split t=x::y::r->∃ n:Nat,Lib.indexByte t 46=n/\t.drop (n+1)=Nm.glue (y::r)/\n+1<=t.length
 |[]=>by simp[Nm.split,Lib.indexByte]
 |c::t=>by
  obtain⟨h1,h2⟩:=Ps t;by_cases hc:c=46
  ·subst hc;have e:Nm.split (46::t)=[]::Nm.split t:=by simp[Nm.split]
   have e2:Lib.indexByte (46::t) 46=0:=by simp[Lib.indexByte]
   rw[e,e2];refine⟨fun r hr=>?_,fun x y r hr=>?_⟩
   ·have:=Nm.nT t;simp at hr;exact absurd hr.2 this
   ·simp only[List.cons.injEq]at hr;refine⟨0,rfl,?_,by simp⟩;rw[<- hr.2,Nm.vj];rfl
  ·have e2:Lib.indexByte (c::t) 46=if Lib.indexByte t 46 = -1 then -1 else Lib.indexByte t 46+1:=by
    rw[Lib.indexByte,if_neg (by simpa using hc)];simp
   cases hs:Nm.split t with
   |nil=>exact absurd hs (Nm.nT t)
   |cons h r0 =>
    have e:Nm.split (c::t)=(c::h)::r0:=by simp[Nm.split,hc,hs]
    rw[e,e2];refine⟨fun r hr=>?_,fun x y r hr=>?_⟩
    ·simp only[List.cons.injEq]at hr;obtain⟨rfl,rfl⟩:=hr;obtain⟨k1,k2⟩:=h1 h hs;rw[if_pos k1];exact⟨rfl,by rw[k2]⟩
    ·simp only[List.cons.injEq]at hr;obtain⟨rfl,rfl⟩:=hr;obtain⟨n,k1,k2,k3⟩:=h2 h y r hs;rw[if_neg (by omega)];exact⟨n+1,by omega,by simpa using k2,by simp;omega⟩
theorem Pt(t:Text)(hv:Nm.valid t=true)(hr:t≠[46]):au E 92 [.str t] (· = .aJ [.str (fQ (Nm.labels t).tail),.int .i64 0]):=by
 have hlen:=dK hv;have c1:=YI t (oF (by omega));rw[hv]at c1;have c2:=YE t 46;have mu:Nm.labels t=Nm.split t:=by rw[Nm.labels,if_neg hr]
 obtain⟨h1,h2⟩:=Ps t;rw[mu];refine eP F92 ?_;refine aj (c1) ?_;refine gO F92 ?_;refine aY ?_;refine gO F92 ?_;refine aO (by simpa using hr) ?_;refine gO F92 ?_;refine aj (c2) ?_;refine gO F92 ?_;cases hs:Nm.split t with
 |nil=>exact absurd hs (Nm.nT t)
 |cons x r =>
  cases r with
  |nil =>
   obtain⟨k1,k2⟩:=h1 x hs;refine aO (by rw[k1];decide) ?_;refine gO F92 ?_;rfl
  |cons y r =>
   obtain⟨n,k1,k2,k3⟩:=h2 x y r hs;have hw:IntKind.i64.wrap (Lib.indexByte t 46+1)=((n+1:Nat):Int):=by rw[k1,wrap64 (by omega) (by omega)];omega
   have hd:List.drop ((some (IntKind.i64.wrap (Lib.indexByte t 46+1))).getD 0).toNat (List.take ((none:Option Int).getD (t.length:Int)).toNat t)=fQ (y::r):=by
    rw[hw]
    simpa [fQ]using k2
   refine aI (by rw[k1];simp) ?_;refine gO F92 ?_;refine bA ⟨by rw[hw];simp;omega,by rw[hw];simp;omega,by simp⟩ ?_;(conv=>whnf);rw[hd];refine gO F92 ?_;rfl
end Go.Proofs.YtcmnpelmmekdkaaGreatDoor.P
end
section
namespace Go.Proofs.YtcmnpelmmekdkaaGreatDoor.P
open Go Go.aA
set_option maxRecDepth 100000
set_option maxHeartbeats 4000000
theorem Pu:Nm.labels [46]=[]:=rfl
theorem H8{t:Text}(h:Nm.labels t=[]):t=[46]:=by rw[<- rR t,h];rfl
theorem Ae{s t:Text}(h:Nm.labels s=Nm.labels t):s=t:=by rw[<- rR s,h,rR]
theorem H9{t:Text}(h:t≠[46]):Nm.labels t≠[]:=fun e=>h (H8 e)
theorem Pv{t:Text}(hv:Nm.valid t=true)(hr:t≠[46]):t.length<=60/\Nm.parts (Nm.split t)=true:=by
 simpa [Nm.valid,hr]using hv
theorem rV{t:Text}(hv:Nm.valid t=true)(hr:t≠[46]):Nm.valid (fQ (Nm.labels t).tail)=true/\Nm.labels (fQ (Nm.labels t).tail)=(Nm.labels t).tail:=by
 obtain⟨h1,h2⟩:=Pv hv hr;have hd:=Nm.LL t;have hg:=Nm.vj t;rw[Nm.labels,if_neg hr];generalize Nm.split t=L at *;cases L with
 |nil=>exact⟨rfl,rfl⟩
 |cons x r =>
  cases r with
  |nil=>exact⟨rfl,rfl⟩
  |cons y r =>
   have e:fQ (y::r)=Nm.glue (y::r):=by simp[fQ]
   have hs:Nm.split (Nm.glue (y::r))=y::r:=Nm.LM _ (by simp) fun u hu=>hd u (List.mem_cons_of_mem _ hu);obtain⟨p1,p2⟩:=na.1 h2;have hy:Nm.label y=true:=by simpa [gK]using p2 1 y rfl
   have aH:Nm.glue (y::r)≠[46]:=fun e=>by
    rw[e]at hs;have e2:Nm.split [46]=[[],[]]:=by decide
    rw[e2]at hs;cases hs;exact absurd hy (by decide)
   have hl:(Nm.glue (y::r)).length<=60:=by
    rw[<- hg,Nm.glue]at h1;simp only[List.length_append,List.length_cons]at h1;omega
   show Nm.valid (fQ (y::r))=true/\Nm.labels (fQ (y::r))=y::r;rw[e];refine⟨?_,by rw[Nm.labels,if_neg aH,hs]⟩
   have hp:Nm.parts (y::r)=true:=na.2 ⟨by simp at p1 ⊢;omega,fun i u hu=>by
    have:=p2 (i+1) u (by simpa using hu);simp[gK]at this
    simp[gK,this]⟩
   simp[Nm.valid,aH,hs,hp,hl]
theorem YL(a:Text):Nm.under a a=true:=by simp[Nm.under]
theorem YM{a b c:Text}(h:Nm.under a b=true)(k:Nm.under b c=true):Nm.under a c=true:=by
 simp only[Nm.under,decide_eq_true_eq]at *;exact k.trans h
theorem YN{a b:Text}(h:Nm.under a b=true)(k:Nm.under b a=true):a=b:=by
 simp only[Nm.under,decide_eq_true_eq]at *;exact Ae (k.eq_of_length (Nat.le_antisymm k.length_le h.length_le))
theorem Ia{a:Text}(h:Nm.under [46] a=true):a=[46]:=by
 simp only[Nm.under,decide_eq_true_eq,Pu,List.suffix_nil]at h;exact H8 h
theorem Dj{n d:Text}(hv:Nm.valid n=true)(hr:n≠[46])(h:Nm.under n d=true)(aH:n≠d):Nm.under (fQ (Nm.labels n).tail) d=true:=by
 simp only[Nm.under,decide_eq_true_eq]at *;rw[(rV hv hr).2];cases e:Nm.labels n with
 |nil=>exact absurd (H8 e) hr
 |cons x r =>
  rw[e]at h;rcases List.suffix_cons_iff.1 h with k|k
  ·exact absurd (Ae (e.trans k.symm)) aH
  ·exact k
theorem YO{n:Text}(hv:Nm.valid n=true)(hr:n≠[46]):Nm.under n (fQ (Nm.labels n).tail)=true:=by
 simp only[Nm.under,decide_eq_true_eq];rw[(rV hv hr).2];exact List.tail_suffix _
theorem Ib{n:Text}(hv:Nm.valid n=true)(hr:n≠[46]):(Nm.labels (fQ (Nm.labels n).tail)).length<(Nm.labels n).length:=by
 rw[(rV hv hr).2,List.length_tail];have:=List.length_pos_iff.2 (H9 hr);omega
theorem YP{z:aP}{c:Text}(h1:z.ab.any (cC ⟨c,2⟩)=true)(h2:c≠z.ad):c∈bO z.ad z.ab:=by
 obtain⟨s,hs,h⟩:=List.any_eq_true.1 h1;simp only[cC,Bool.and_eq_true,beq_iff_eq]at h;unfold bO;exact List.mem_map.2 ⟨s,List.mem_filter.2 ⟨hs,by simp[iJ,h.1,h.2,h2]⟩,h.1⟩
theorem Ic{z:aP}{c:Text}(h:c∈bO z.ad z.ab):z.ab.any (cC ⟨c,2⟩)=true/\c≠z.ad:=by
 obtain⟨s,hs,rfl,hc⟩:=n4 h;simp[iJ]at hc;exact⟨List.any_eq_true.2 ⟨s,hs,by simp[cC,hc.1]⟩,hc.2⟩
theorem YQ{z:aP}(V:ey z){n c:Text}(h:c∈bO z.ad z.ab)(hu:Nm.under n c=true):gZ z n=some c:=by
 unfold gZ;cases e:(bO z.ad z.ab).find? fun d=>Nm.under n d with
 |none=>exact absurd hu (by simpa using List.find?_eq_none.1 e c h)
 |some d=>rw[V.db d (List.mem_of_find?_eq_some e) c h n (by simpa using List.find?_some e) hu]
theorem YR{z:aP}(V:ey z){n:Text}(h:∀ d∈bO z.ad z.ab,Nm.under n d=true->Nm.under z.ad d=true):gZ z n=none:=by
 unfold gZ;rw[List.find?_eq_none];intro d hd hu;obtain⟨s,hs,rfl,hc⟩:=n4 hd;exact(Ic hd).2 (YN (V.under s hs) (h _ hd (by simpa using hu)))
def Ie(z:aP)(n:Text):DV:=if Nm.valid n&&eT z then(if Nm.under n z.ad then(match gZ z n with|some c => .aJ [.str c,.bool true,.int .i64 0]|none => .aJ [.str [],.bool false,.int .i64 0])else .aJ [.str [],.bool false,.int .i64 20])else .aJ [.str [],.bool false,.int .i64 1]
theorem YS(z:aP)(n:Text)(hf:z.Fits)(hn:n.length<=maxLen):au E 51 [z.enc,.str n] (· = Ie z n):=by
 have c1:=nd n hn;have c2:=Hd z hf;unfold Ie;cases h1:Nm.valid n
 ·rw[h1]at c1;refine eP F51 ?_;repeat' (first|with_reducible(first|refine aj (c1) ?_|refine bj (c1) ?_|refine cY ?_|refine cN ?_|refine ar (fun _=>?_) (fun _=>?_))|refine gA F51 ?_|refine gB ?_|refine gC ?_|with_reducible rfl)
  all_goals rfl
 cases h2:eT z
 ·rw[h1]at c1;rw[h2]at c2;refine eP F51 ?_;repeat' (first|with_reducible(first|refine aj (c1) ?_|refine bj (c1) ?_|refine aj (c2) ?_|refine bj (c2) ?_|refine cY ?_|refine cN ?_|refine ar (fun _=>?_) (fun _=>?_))|refine gA F51 ?_|refine gB ?_|refine gC ?_|with_reducible rfl)
  all_goals rfl
 rw[h1]at c1;rw[h2]at c2;have V:=lN h2;have c3:=zW n z.ad hn (by have:=dK V.ad;exact oF (by omega));rw[An h1 V.ad,h1,V.ad]at c3;have hlen:=V.len;refine eP F51 ?_;refine aj (c1) ?_;refine gO F51 ?_;refine aY ?_;refine gO F51 ?_;refine aj (c2) ?_;refine gO F51 ?_;refine aY ?_;refine gO F51 ?_;refine aj (c3) ?_;refine gO F51 ?_;cases h3:Nm.under n z.ad
 ·refine bp ?_;refine gO F51 ?_;rfl
 refine aY ?_;refine gO F51 ?_;refine aa.loop (κ:=Text) ([4,5,6,10,11,12]++rg 33 18) (fun c=>[(10,.d (.str c))]) (fun _=>[]) (fun c=>Nm.valid c=true/\Nm.under n c=true/\Nm.under c z.ad=true/\∀ d∈bO z.ad z.ab,Nm.under n d=true->Nm.under c d=true) (fun c=>(Nm.labels c).length) n ⟨h1,YL n,h3,fun d _ h=>h⟩ ?_ ?_
 ·exact sZ
 rintro c ⟨k1,k2,k3,k4⟩ IH;refine aa.head ag F51 2000 ?_;(conv=>whnf);by_cases h4:c=z.ad
 ·refine aO (by simpa using h4) ?_;refine gO F51 ?_;subst h4;rw[YR V k4];rfl
 refine aI (by simpa using h4) ?_;have hr:c≠[46]:=fun e=>h4 (by rw[e]at k3 ⊢;exact(Ia k3).symm);have c4:=C2 z ⟨c,2⟩ (by omega) V.names k1 V.sorted;have c5:=Pt c k1 hr;have t1:=rV k1 hr;have t2:=Ib k1 hr;refine gO F51 ?_
 with_reducible refine uP (c4) ?_
 rintro r ⟨i,-,rfl,-⟩;refine gO F51 ?_;cases h5:z.ab.any (cC ⟨c,2⟩)
 ·refine aY ?_;refine gO F51 ?_;refine aj (c5) ?_;refine gO F51 ?_;have aH:∀ d∈bO z.ad z.ab,c≠d:=fun d hd e=>by
   have:=(Ic hd).1;rw[<- e,h5]at this;cases this
  refine aa.back (IH (fQ (Nm.labels c).tail) ⟨t1.1,YM k2 (YO k1 hr),Dj k1 hr k3 h4,fun d hd hu=>Dj k1 hr (k4 d hd hu) (aH d hd)⟩ t2) ?_;exact sZ
 ·refine bp ?_;refine gO F51 ?_;rw[YQ V (YP h5 h4) k2];rfl
theorem Ig{l:List Signed}{c:Text}(h:gJ l c=true):kn l (Nm.labels c)=Nm.labels c:=by
 cases e:Nm.labels c with
 |nil=>rfl
 |cons x r=>rw[kn,<- e,rR,if_pos h]
theorem Ih{l:List Signed}{c:Text}(h:gJ l c=false):kn l (Nm.labels c)=kn l (Nm.labels c).tail:=by
 cases e:Nm.labels c with
 |nil=>rfl
 |cons x r=>rw[kn,<- e,rR,h];simp[e]
theorem AM{t:Text}(hv:Nm.valid t=true):(Nm.labels t).length<=8/\∀ x∈Nm.labels t,x.length<=100:=by
 by_cases hr:t=[46]
 ·subst hr;simp[Pu]
 obtain⟨h1,h2⟩:=Pv hv hr;rw[Nm.labels,if_neg hr];obtain⟨p1,p2⟩:=na.1 h2;refine⟨p1,fun x hx=>?_⟩;obtain⟨i,hi⟩:=List.getElem?_of_mem hx;have:=p2 i x hi;simp only[gK,Nm.label,Bool.or_eq_true,Bool.and_eq_true,decide_eq_true_eq]at this;rcases this with h|⟨_,rfl⟩
 ·omega
 ·simp
theorem YT(z:aP)(q:aM)(cut:Text)(b:Bool)(w:Text)(V:ey z)(hq:Nm.valid q.name=true)(hu:Nm.under q.name z.ad=true):aB E 100 [bG z q cut b w,bC z] [.ptr 0 0] (fun x h=>x=.d (.str ((pg z.ab q.name).getD []))/\h=[bG z q cut b w,bC z]):=by
 have c0:=fun n hn=>AK z q cut b w n V hn;unfold bG bC at c0;apply aB.kV
 case hk=>rfl
 case hc =>
  unfold bG bC;refine aB.run ag (fn:=Tryz.f100) Tryz.func100 (body:=Tryz.f100.body.getD .skip) rfl (by decide) 2000 rfl ?_;(conv=>whnf);refine aa.loop (κ:=Text) ([3]++rg 13 17) (fun c=>[(3,.d (.str c))]) (fun _=>[]) (fun c=>Nm.valid c=true/\Nm.under c z.ad=true/\kn z.ab (Nm.labels q.name)=kn z.ab (Nm.labels c)) (fun c=>(Nm.labels c).length) q.name ⟨hq,hu,rfl⟩ ?_ ?_
  ·exact sZ
  rintro c ⟨k1,k2,k3⟩ IH;refine aa.head ag F100 2000 ?_;(conv=>whnf);have c1:=c0 c k1;have mu:=O1 c (by have:=dK k1;exact oF (by omega));unfold vJ at mu;rw[k1]at mu;have hl:=AM k1;have fin:gJ z.ab c=true->pg z.ab q.name=jI ([42]::Nm.labels c):=fun h=>by rw[pg,k3,Ig h]
  have hj:=YJ ([42]::Nm.labels c) (by simp;omega) (fun t ht=>by
   rcases List.mem_cons.1 ht with rfl|h
   ·simp
   ·exact hl.2 t h)
  by_cases h4:c=z.ad
  ·rw[fin (by rw[h4];exact V.O0)];clear fin IH;refine aO (by simpa using h4) ?_;refine gO F100 ?_;refine aY ?_;refine gO F100 ?_;refine aj mu ?_;(conv=>whnf);refine aa.run ag F100 8 ?_;(conv=>whnf);refine aa.kM ag rfl ?_;refine gO F100 ?_;refine bA ⟨by simp;omega,by simp[DV.cells]⟩ ?_;(conv=>whnf);refine aa.freeze 2 ?_;(conv=>whnf);refine gO F100 ?_;cases hJ:jI ([42]::Nm.labels c)with
   |none =>
    rw[hJ]at hj;refine aj (hj) ?_;refine gO F100 ?_;refine bp ?_;refine gO F100 ?_;exact⟨rfl,rfl⟩
   |some t =>
    rw[hJ]at hj;refine aj (hj) ?_;refine gO F100 ?_;refine aY ?_;refine gO F100 ?_;exact⟨rfl,rfl⟩
  ·refine aI (by simpa using h4) ?_;have hr:c≠[46]:=fun e=>h4 (by rw[e]at k2 ⊢;exact(Ia k2).symm);refine gO F100 ?_
   with_reducible refine bJ (c1) ?_
   refine gO F100 ?_;cases h5:gJ z.ab c
   ·refine bp ?_;have c5:=Pt c k1 hr;refine gO F100 ?_;refine aj (c5) ?_;refine gO F100 ?_;refine aa.back (IH (fQ (Nm.labels c).tail) ⟨(rV k1 hr).1,Dj k1 hr k2 h4,by rw[k3,Ih h5,(rV k1 hr).2]⟩ (Ib k1 hr)) ?_;exact sZ
   ·rw[fin h5];clear fin IH;refine aY ?_;refine gO F100 ?_;refine aj mu ?_;(conv=>whnf);refine aa.run ag F100 8 ?_;(conv=>whnf);refine aa.kM ag rfl ?_;refine gO F100 ?_;refine bA ⟨by simp;omega,by simp[DV.cells]⟩ ?_;(conv=>whnf);refine aa.freeze 2 ?_;(conv=>whnf);refine gO F100 ?_;cases hJ:jI ([42]::Nm.labels c)with
    |none =>
     rw[hJ]at hj;refine aj (hj) ?_;refine gO F100 ?_;refine bp ?_;refine gO F100 ?_;exact⟨rfl,rfl⟩
    |some t =>
     rw[hJ]at hj;refine aj (hj) ?_;refine gO F100 ?_;refine aY ?_;refine gO F100 ?_;exact⟨rfl,rfl⟩
def Ii:DV := .agg [.int .i64 0,.a7,.str []]
theorem YU(z:aP)(q:aM)(cut:Text)(b:Bool)(w:Text)(V:ey z)(hf:z.gY)(hq:Nm.valid q.name=true)(he:gJ z.ab q.name=true):aB E 56 [bG z q cut b w,bC z] [.ptr 0 0] (fun x h=>x=.aJ [.d (om 5 (bM z.ab (b8 [aq z.ab ⟨z.ad,4⟩,cK z.ab q.name])) []),.d (.bool true)]/\h=[bG z q cut b w,bC z]):=by
 have c0:=AK z q cut b w q.name V hq;have c1:=H4 z q cut b w V.sorted;have c3:=vN z q cut b w q.name V hq;have ai:=(ga (l:=z.ab) (q:=⟨z.ad,4⟩)).2;have ki:=(tA (l:=z.ab) (n:=q.name)).2;rw[he]at c0;generalize aq z.ab ⟨z.ad,4⟩=i at *;generalize cK z.ab q.name=j at *;have c2:=my z q cut b w 5 [i,j] hf (fun p hp=>by simp at hp;rcases hp with rfl|rfl<;>assumption) (by simp);simp only[List.map_cons,List.map_nil]at c2;unfold bG bC at c0 c1 c2 c3;apply aB.kV
 case hk=>rfl
 case hc =>
  unfold bG bC;refine aB.run ag (fn:=Tryz.f56) Tryz.func56 (body:=Tryz.f56.body.getD .skip) rfl (by decide) 2000 rfl ?_;conv=>whnf
  with_reducible refine bJ (c0) ?_
  refine gO Tryz.func56 ?_;refine bp ?_;refine gO Tryz.func56 ?_;refine aa.draw ag bN 12 2000 (by kernel_rfl) ?_;(conv=>whnf);refine cg.km (ah:=[0,1]) c1 rfl rfl fz (kq (bg rfl)) (by decide) (by simp) rfl rfl rfl ?_;refine gD ?_;refine cg.km (ah:=[0,1]) c3 rfl rfl fz (mw (bg rfl) (bg rfl)) (by decide) (by simp) rfl rfl rfl ?_;refine gD ?_;refine cg.km (ah:=[0,1]) c2 rfl rfl fz (qs (bg rfl) qp (bg rfl)) (by decide) (by simp) rfl rfl rfl ?_;refine gD ?_;refine gS ?_;refine gO Tryz.func56 ?_;exact⟨rfl,rfl⟩
theorem YV(z:aP)(q:aM)(cut:Text)(b:Bool)(w:Text)(V:ey z)(hq:Nm.valid q.name=true)(hu:Nm.under q.name z.ad=true)(he:gJ z.ab q.name=false):aB E 56 [bG z q cut b w,bC z] [.ptr 0 0] (fun x h=>x=.aJ [.d Ii,.d (.bool false)]/\h=[bG z q cut b ((pg z.ab q.name).getD []),bC z]):=by
 have c0:=AK z q cut b w q.name V hq;have c1:=YT z q cut b w V hq hu;rw[he]at c0;unfold bG bC at c0 c1;apply aB.kV
 case hk=>rfl
 case hc =>
  unfold bG bC;refine aB.run ag (fn:=Tryz.f56) Tryz.func56 (body:=Tryz.f56.body.getD .skip) rfl (by decide) 2000 rfl ?_;conv=>whnf
  with_reducible refine bJ (c0) ?_
  refine gO Tryz.func56 ?_;refine aY ?_;refine gO Tryz.func56 ?_
  with_reducible refine bJ (c1) ?_
  refine gO Tryz.func56 ?_;exact⟨rfl,rfl⟩
theorem Pw(z:aP)(q:aM)(cut:Text)(b:Bool)(w:Text)(V:ey z)(hw:w=[]\/(Nm.valid w=true/\gJ z.ab w=false)):aB E 59 [bG z q cut b w,bC z] [.ptr 0 0] (fun x h=>x=.aJ [.d Ii,.d (.bool false)]/\h=[bG z q cut b w,bC z]):=by
 apply aB.kV
 case hk=>rfl
 case hc =>
  by_cases h0:w=[]
  ·subst h0;unfold bG bC;refine aB.run ag (fn:=Tryz.f59) Tryz.func59 (body:=Tryz.f59.body.getD .skip) rfl (by decide) 2000 rfl ?_;(conv=>whnf);refine aI (by decide) ?_;refine gO F59 ?_;refine bp ?_;refine gO F59 ?_;exact⟨rfl,rfl⟩
  ·obtain⟨h1,h2⟩:=hw.resolve_left h0;have c0:=AK z q cut b w w V h1;rw[h2]at c0;unfold bG bC at c0 ⊢;refine aB.run ag (fn:=Tryz.f59) Tryz.func59 (body:=Tryz.f59.body.getD .skip) rfl (by decide) 2000 rfl ?_;(conv=>whnf);refine aO (by simpa using h0) ?_;refine gO F59 ?_
   with_reducible refine bJ (c0) ?_
   refine gO F59 ?_;refine bp ?_;refine gO F59 ?_;exact⟨rfl,rfl⟩
theorem YW(z:aP)(q:aM)(cut:Text)(b:Bool)(w:Text)(V:ey z)(hf:z.gY)(hq:Nm.valid q.name=true)(hw:Nm.valid w=true)(he:gJ z.ab w=true):aB E 59 [bG z q cut b w,bC z] [.ptr 0 0] (fun x h=>x=.aJ [.d (om 5 (bM z.ab (b8 [aq z.ab ⟨z.ad,4⟩,cK z.ab q.name,cK z.ab w])) []),.d (.bool true)]/\h=[bG z q cut b w,bC z]):=by
 have c0:=AK z q cut b w w V hw;have c1:=H4 z q cut b w V.sorted;have c3:=vN z q cut b w q.name V hq;have c4:=vN z q cut b w w V hw;have ai:=(ga (l:=z.ab) (q:=⟨z.ad,4⟩)).2;have ki:=(tA (l:=z.ab) (n:=q.name)).2;have AL:=(tA (l:=z.ab) (n:=w)).2;have h0:w≠[]:=fun e=>by rw[e]at hw;exact absurd hw (by decide)
 rw[he]at c0;generalize aq z.ab ⟨z.ad,4⟩=i at *;generalize cK z.ab q.name=j at *;generalize cK z.ab w=m at *;have c2:=my z q cut b w 5 [i,j,m] hf (fun p hp=>by simp at hp;rcases hp with rfl|rfl|rfl<;>assumption) (by simp);simp only[List.map_cons,List.map_nil]at c2;unfold bG bC at c0 c1 c2 c3 c4;apply aB.kV
 case hk=>rfl
 case hc =>
  unfold bG bC;refine aB.run ag (fn:=Tryz.f59) Tryz.func59 (body:=Tryz.f59.body.getD .skip) rfl (by decide) 2000 rfl ?_;(conv=>whnf);refine aO (by simpa using h0) ?_;refine gO F59 ?_
  with_reducible refine bJ (c0) ?_
  refine gO F59 ?_;refine aY ?_;refine gO F59 ?_;refine aa.draw ag bN 18 2000 (by kernel_rfl) ?_;(conv=>whnf);refine cg.km (ah:=[0,1]) c1 rfl rfl fz (kq (bg rfl)) (by decide) (by simp) rfl rfl rfl ?_;refine gD ?_;refine cg.km (ah:=[0,1]) c3 rfl rfl fz (mw (bg rfl) (bg rfl)) (by decide) (by simp) rfl rfl rfl ?_;refine gD ?_;refine cg.km (ah:=[0,1]) c4 rfl rfl fz (mw (bg rfl) (bg rfl)) (by decide) (by simp) rfl rfl rfl ?_;refine gD ?_;refine cg.km (ah:=[0,1]) c2 rfl rfl fz (qs (bg rfl) qp (bg rfl)) (by decide) (by simp) rfl rfl rfl ?_;refine gD ?_;refine gS ?_;refine gO F59 ?_;exact⟨rfl,rfl⟩
theorem Px{s:eD}(h:fa s=true)(ht:s.type=2):∀ d∈s.data,Nm.valid d.text=true:=fun d hd=>by
 simp only[fa,Bool.and_eq_true]at h;have:=CF h.2 d hd;rw[ht]at this;simp only[jB,Bool.and_eq_true]at this;have:=this.2;simp[mj,fO]at this;exact this.1
def dO(l:List Signed)(c:Text)(D:List Datum):List Int:=(D.filter fun d=>Nm.under d.text c).map fun d=>aq l ⟨d.text,1⟩
theorem vO{l:List Signed}{c:Text}{D:List Datum}{k:Nat}{d:Datum}(h:D[k]?=some d):dO l c (D.take (k+1))=dO l c (D.take k)++(if Nm.under d.text c then[aq l ⟨d.text,1⟩]else[]):=by
 rw[dW h];unfold dO;rw[List.filter_append,List.map_append];cases e:Nm.under d.text c<;>simp[e]
theorem rW(l:List Signed)(c:Text)(D:List Datum):(dO l c D).length<=D.length:=by
 unfold dO;rw[List.length_map];exact List.length_filter_le _ _
theorem vP{l:List Signed}{c:Text}{D:List Datum}{p:Int}(h:p∈dO l c D):p<l.length:=by
 simp only[dO,List.mem_map]at h;obtain⟨d,-,rfl⟩:=h;exact ga.2
def ot(q:aM)(cut:Text)(b:Bool):Bool := !b||(decide (q.name=cut)&&(decide (q.type=6)||decide (q.type=8)))
theorem YX(z:aP)(q:aM)(cut:Text)(b:Bool)(w:Text)(hb:ot q cut b=true):aB E 53 [bG z q cut b w,bC z] [.ptr 0 0] (fun x h=>x=.aJ [.d Ii,.d (.bool false)]/\h=[bG z q cut b w,bC z]):=by
 apply aB.kV
 case hk=>rfl
 case hc =>
  unfold bG bC;by_cases h6:q.type=6
  ·refine aB.run ag (fn:=Tryz.f53) Tryz.func53 (body:=Tryz.f53.body.getD .skip) rfl (by decide) 2000 rfl ?_;(conv=>whnf);refine aI (by simpa using h6) ?_;refine gO F53 ?_;cases b
   ·refine aa.draw ag bN 20 2000 (by kernel_rfl) ?_;(conv=>whnf);refine bp ?_;refine gD ?_;refine gS ?_;refine gO F53 ?_;refine bp ?_;refine gO F53 ?_;exact⟨rfl,rfl⟩
   ·have hn:q.name=cut:=by simpa [ot,h6]using hb
    refine aa.draw ag bN 20 2000 (by kernel_rfl) ?_;(conv=>whnf);refine aY ?_;refine gD ?_;refine aI (by simpa using hn) ?_;refine gD ?_;refine gS ?_;refine gO F53 ?_;refine bp ?_;refine gO F53 ?_;exact⟨rfl,rfl⟩
  ·refine aB.run ag (fn:=Tryz.f53) Tryz.func53 (body:=Tryz.f53.body.getD .skip) rfl (by decide) 2000 rfl ?_;(conv=>whnf);refine aO (by simpa using h6) ?_;refine gO F53 ?_;cases b
   ·refine aa.draw ag bN 20 2000 (by kernel_rfl) ?_;(conv=>whnf);refine bp ?_;refine gD ?_;refine gS ?_;refine gO F53 ?_;refine bp ?_;refine gO F53 ?_;exact⟨rfl,rfl⟩
   ·have hn:q.name=cut/\q.type=8:=by simpa [ot,h6]using hb
    refine aa.draw ag bN 20 2000 (by kernel_rfl) ?_;(conv=>whnf);refine aY ?_;refine gD ?_;refine aI (by simpa using hn.1) ?_;refine gD ?_;refine gS ?_;refine gO F53 ?_;refine aI (by simpa using hn.2) ?_;refine gO F53 ?_;exact⟨rfl,rfl⟩
theorem YY(z:aP)(q:aM)(cut:Text)(w:Text)(V:ey z)(hf:z.gY)(hc:Nm.valid cut=true)(h2:0<=aq z.ab ⟨cut,2⟩)(hb:ot q cut true=false):aB E 53 [bG z q cut true w,bC z] [.ptr 0 0] (fun x h=>x=.aJ [.d (om 4 (bM z.ab (ia z.ab cut)) cut),.d (.bool true)]/\h=[bG z q cut true w,bC z]):=by
 have p2:=rT z q cut true w cut 2 V.sorted;have p6:=rT z q cut true w cut 6 V.sorted;have p8:=rT z q cut true w cut 8 V.sorted;have p1:=fun n=>rT z q cut true w n 1 V.sorted;have se:=(ga (l:=z.ab) (q:=⟨cut,2⟩)).2;obtain⟨s,hs,iF⟩:=jH h2;have fZ:=Px (V.ab s (List.mem_of_getElem? hs)) (congrArg aM.type (qk iF)).symm;have YZ:=(rD (V.ab s (List.mem_of_getElem? hs))).2.1;have adt:=rW z.ab cut s.set.data;have kK:xV z.ab cut=s.set.data:=by rw[xV,hs]
 unfold bG bC at p2 p6 p8 p1;apply aB.kV
 case hk=>rfl
 case hc =>
  unfold bG bC;by_cases h6:q.type=6
  ·have hn:q.name≠cut:=fun e=>by simp[ot,h6,e]at hb
   refine aB.run ag (fn:=Tryz.f53) Tryz.func53 (body:=Tryz.f53.body.getD .skip) rfl (by decide) 2000 rfl ?_;(conv=>whnf);refine aI (by simpa using h6) ?_;refine gO F53 ?_;refine aa.draw ag bN 20 2000 (by kernel_rfl) ?_;(conv=>whnf);refine aY ?_;refine gD ?_;refine aO (by simpa using hn) ?_;refine gD ?_;refine gS ?_;refine gO F53 ?_;refine aY ?_;refine gO F53 ?_
   with_reducible refine bJ (p2) ?_
   refine gO F53 ?_;by_cases ai:aq z.ab ⟨cut,6⟩<0
   ·with_reducible refine bJ (p6) ?_
    refine gO F53 ?_;refine aI (decide_eq_true ai) ?_;refine gO F53 ?_
    with_reducible refine bJ p8 ?_
    (conv=>whnf);refine aa.run ag F53 6 ?_;have nu:ia z.ab cut=b8 (aq z.ab ⟨cut,2⟩::aq z.ab ⟨cut,8⟩::dO z.ab cut s.set.data):=by
     rw[ia,ep,if_pos ai,lM,kK];rfl
    have c4:=my z q cut true w 4 (aq z.ab ⟨cut,2⟩::aq z.ab ⟨cut,8⟩::dO z.ab cut s.set.data) hf (fun p hp=>by
     rcases List.mem_cons.1 hp with rfl|hp
     ·exact ga.2
     rcases List.mem_cons.1 hp with rfl|hp
     ·exact ga.2
     exact vP hp) (by simp;omega)
    unfold bG bC at c4;(conv=>whnf);refine aa.kM ag rfl ?_;refine gO F53 ?_;refine aC (e:=s.enc) ⟨h2,by rw[List.getElem?_map,hs];rfl⟩ rfl ?_;refine gO F53 ?_;refine aa.loop (κ:=Nat) ([7,9]++rg 79 19) (fun k=>[(79,.d (.int .i64 k)),(7,.own 3 1)]) (fun k=>[(3,.arr 1 (3,1) ((aq z.ab ⟨cut,2⟩::aq z.ab ⟨cut,8⟩::dO z.ab cut (s.set.data.take k)).map (.int .i64)))]) (fun k=>k<=s.set.data.length) (fun k=>s.set.data.length-k) 0 (Nat.zero_le _) ?_ ?_
    ·(conv=>whnf);repeat (first|exact trivial|(refine sI ?_;conv=>whnf))
     refine And.intro rfl ?_;exact sZ
    intro k hk IH;have iQ:=rW z.ab cut (s.set.data.take k);rw[List.length_take]at iQ;refine aa.head ag F53 2000 ?_;(conv=>whnf);refine ar (fun h5=>?_) (fun h5=>?_)
    ·have kr:k<s.set.data.length:=by simpa using h5
     obtain⟨d,hd⟩:=bd kr;have c2:=vM d.text cut (fZ d (List.mem_of_getElem? hd)) hc;have p1:=p1 d.text;have fA:=vO (l:=z.ab) (c:=cut) hd;refine gO F53 ?_;refine aC (e:=d.enc) (aS hd) rfl ?_;refine gO F53 ?_;refine aa.draw ag bN 7 2000 (by kernel_rfl) ?_;(conv=>whnf);refine bj (c2) ?_;refine gD ?_;refine gS ?_;refine gO F53 ?_;cases hu:Nm.under d.text cut
     ·rw[hu,if_neg (by decide),List.append_nil]at fA;refine aY ?_;refine gO F53 ?_;refine aa.back (IH (k+1) (by omega) (by omega)) ?_;rw[fA];exact sZ
     ·rw[hu,if_pos rfl]at fA;refine bp ?_;refine gO F53 ?_
      with_reducible refine bJ (p1) ?_
      refine gO F53 ?_;refine bA ⟨by simp;omega,by simp[DV.cells]⟩ ?_;refine gO F53 ?_;refine aa.back (IH (k+1) (by omega) (by omega)) ?_;rw[fA];(conv=>whnf);repeat (first|exact trivial|(refine sI ?_;conv=>whnf))
      refine And.intro (by simp) ?_;exact sZ
    ·have aG:s.set.data.length<=k:=by simpa using h5
     rw[List.take_of_length_le aG];(conv=>whnf);refine aa.freeze 3 ?_;(conv=>whnf);refine gO F53 ?_
     with_reducible refine bJ (c4) ?_
     refine gO F53 ?_;rw[nu];exact⟨rfl,rfl⟩
   ·with_reducible refine bJ (p6) ?_
    refine gO F53 ?_;refine aO (decide_eq_false ai) ?_;(conv=>whnf);refine aa.run ag F53 5 ?_;have nu:ia z.ab cut=b8 (aq z.ab ⟨cut,2⟩::aq z.ab ⟨cut,6⟩::dO z.ab cut s.set.data):=by
     rw[ia,ep,if_neg ai,lM,kK];rfl
    have c4:=my z q cut true w 4 (aq z.ab ⟨cut,2⟩::aq z.ab ⟨cut,6⟩::dO z.ab cut s.set.data) hf (fun p hp=>by
     rcases List.mem_cons.1 hp with rfl|hp
     ·exact ga.2
     rcases List.mem_cons.1 hp with rfl|hp
     ·exact ga.2
     exact vP hp) (by simp;omega)
    unfold bG bC at c4;(conv=>whnf);refine aa.kM ag rfl ?_;refine gO F53 ?_;refine aC (e:=s.enc) ⟨h2,by rw[List.getElem?_map,hs];rfl⟩ rfl ?_;refine gO F53 ?_;refine aa.loop (κ:=Nat) ([7,9]++rg 79 19) (fun k=>[(79,.d (.int .i64 k)),(7,.own 3 1)]) (fun k=>[(3,.arr 1 (3,1) ((aq z.ab ⟨cut,2⟩::aq z.ab ⟨cut,6⟩::dO z.ab cut (s.set.data.take k)).map (.int .i64)))]) (fun k=>k<=s.set.data.length) (fun k=>s.set.data.length-k) 0 (Nat.zero_le _) ?_ ?_
    ·(conv=>whnf);repeat (first|exact trivial|(refine sI ?_;conv=>whnf))
     refine And.intro rfl ?_;exact sZ
    intro k hk IH;have iQ:=rW z.ab cut (s.set.data.take k);rw[List.length_take]at iQ;refine aa.head ag F53 2000 ?_;(conv=>whnf);refine ar (fun h5=>?_) (fun h5=>?_)
    ·have kr:k<s.set.data.length:=by simpa using h5
     obtain⟨d,hd⟩:=bd kr;have c2:=vM d.text cut (fZ d (List.mem_of_getElem? hd)) hc;have p1:=p1 d.text;have fA:=vO (l:=z.ab) (c:=cut) hd;refine gO F53 ?_;refine aC (e:=d.enc) (aS hd) rfl ?_;refine gO F53 ?_;refine aa.draw ag bN 7 2000 (by kernel_rfl) ?_;(conv=>whnf);refine bj (c2) ?_;refine gD ?_;refine gS ?_;refine gO F53 ?_;cases hu:Nm.under d.text cut
     ·rw[hu,if_neg (by decide),List.append_nil]at fA;refine aY ?_;refine gO F53 ?_;refine aa.back (IH (k+1) (by omega) (by omega)) ?_;rw[fA];exact sZ
     ·rw[hu,if_pos rfl]at fA;refine bp ?_;refine gO F53 ?_
      with_reducible refine bJ (p1) ?_
      refine gO F53 ?_;refine bA ⟨by simp;omega,by simp[DV.cells]⟩ ?_;refine gO F53 ?_;refine aa.back (IH (k+1) (by omega) (by omega)) ?_;rw[fA];(conv=>whnf);repeat (first|exact trivial|(refine sI ?_;conv=>whnf))
      refine And.intro (by simp) ?_;exact sZ
    ·have aG:s.set.data.length<=k:=by simpa using h5
     rw[List.take_of_length_le aG];(conv=>whnf);refine aa.freeze 3 ?_;(conv=>whnf);refine gO F53 ?_
     with_reducible refine bJ (c4) ?_
     refine gO F53 ?_;rw[nu];exact⟨rfl,rfl⟩
  ·by_cases hn:q.name=cut
   ·have h8:q.type≠8:=fun e=>by simp[ot,hn,e]at hb
    refine aB.run ag (fn:=Tryz.f53) Tryz.func53 (body:=Tryz.f53.body.getD .skip) rfl (by decide) 2000 rfl ?_;(conv=>whnf);refine aO (by simpa using h6) ?_;refine gO F53 ?_;refine aa.draw ag bN 20 2000 (by kernel_rfl) ?_;(conv=>whnf);refine aY ?_;refine gD ?_;refine aI (by simpa using hn) ?_;refine gD ?_;refine gS ?_;refine gO F53 ?_;refine aO (by simpa using h8) ?_;refine gO F53 ?_
    with_reducible refine bJ (p2) ?_
    refine gO F53 ?_;by_cases ai:aq z.ab ⟨cut,6⟩<0
    ·with_reducible refine bJ (p6) ?_
     refine gO F53 ?_;refine aI (decide_eq_true ai) ?_;refine gO F53 ?_
     with_reducible refine bJ p8 ?_
     (conv=>whnf);refine aa.run ag F53 6 ?_;have nu:ia z.ab cut=b8 (aq z.ab ⟨cut,2⟩::aq z.ab ⟨cut,8⟩::dO z.ab cut s.set.data):=by
      rw[ia,ep,if_pos ai,lM,kK];rfl
     have c4:=my z q cut true w 4 (aq z.ab ⟨cut,2⟩::aq z.ab ⟨cut,8⟩::dO z.ab cut s.set.data) hf (fun p hp=>by
      rcases List.mem_cons.1 hp with rfl|hp
      ·exact ga.2
      rcases List.mem_cons.1 hp with rfl|hp
      ·exact ga.2
      exact vP hp) (by simp;omega)
     unfold bG bC at c4;(conv=>whnf);refine aa.kM ag rfl ?_;refine gO F53 ?_;refine aC (e:=s.enc) ⟨h2,by rw[List.getElem?_map,hs];rfl⟩ rfl ?_;refine gO F53 ?_;refine aa.loop (κ:=Nat) ([7,9]++rg 79 19) (fun k=>[(79,.d (.int .i64 k)),(7,.own 3 1)]) (fun k=>[(3,.arr 1 (3,1) ((aq z.ab ⟨cut,2⟩::aq z.ab ⟨cut,8⟩::dO z.ab cut (s.set.data.take k)).map (.int .i64)))]) (fun k=>k<=s.set.data.length) (fun k=>s.set.data.length-k) 0 (Nat.zero_le _) ?_ ?_
     ·(conv=>whnf);repeat (first|exact trivial|(refine sI ?_;conv=>whnf))
      refine And.intro rfl ?_;exact sZ
     intro k hk IH;have iQ:=rW z.ab cut (s.set.data.take k);rw[List.length_take]at iQ;refine aa.head ag F53 2000 ?_;(conv=>whnf);refine ar (fun h5=>?_) (fun h5=>?_)
     ·have kr:k<s.set.data.length:=by simpa using h5
      obtain⟨d,hd⟩:=bd kr;have c2:=vM d.text cut (fZ d (List.mem_of_getElem? hd)) hc;have p1:=p1 d.text;have fA:=vO (l:=z.ab) (c:=cut) hd;refine gO F53 ?_;refine aC (e:=d.enc) (aS hd) rfl ?_;refine gO F53 ?_;refine aa.draw ag bN 7 2000 (by kernel_rfl) ?_;(conv=>whnf);refine bj (c2) ?_;refine gD ?_;refine gS ?_;refine gO F53 ?_;cases hu:Nm.under d.text cut
      ·rw[hu,if_neg (by decide),List.append_nil]at fA;refine aY ?_;refine gO F53 ?_;refine aa.back (IH (k+1) (by omega) (by omega)) ?_;rw[fA];exact sZ
      ·rw[hu,if_pos rfl]at fA;refine bp ?_;refine gO F53 ?_
       with_reducible refine bJ (p1) ?_
       refine gO F53 ?_;refine bA ⟨by simp;omega,by simp[DV.cells]⟩ ?_;refine gO F53 ?_;refine aa.back (IH (k+1) (by omega) (by omega)) ?_;rw[fA];(conv=>whnf);repeat (first|exact trivial|(refine sI ?_;conv=>whnf))
       refine And.intro (by simp) ?_;exact sZ
     ·have aG:s.set.data.length<=k:=by simpa using h5
      rw[List.take_of_length_le aG];(conv=>whnf);refine aa.freeze 3 ?_;(conv=>whnf);refine gO F53 ?_
      with_reducible refine bJ (c4) ?_
      refine gO F53 ?_;rw[nu];exact⟨rfl,rfl⟩
    ·with_reducible refine bJ (p6) ?_
     refine gO F53 ?_;refine aO (decide_eq_false ai) ?_;(conv=>whnf);refine aa.run ag F53 5 ?_;have nu:ia z.ab cut=b8 (aq z.ab ⟨cut,2⟩::aq z.ab ⟨cut,6⟩::dO z.ab cut s.set.data):=by
      rw[ia,ep,if_neg ai,lM,kK];rfl
     have c4:=my z q cut true w 4 (aq z.ab ⟨cut,2⟩::aq z.ab ⟨cut,6⟩::dO z.ab cut s.set.data) hf (fun p hp=>by
      rcases List.mem_cons.1 hp with rfl|hp
      ·exact ga.2
      rcases List.mem_cons.1 hp with rfl|hp
      ·exact ga.2
      exact vP hp) (by simp;omega)
     unfold bG bC at c4;(conv=>whnf);refine aa.kM ag rfl ?_;refine gO F53 ?_;refine aC (e:=s.enc) ⟨h2,by rw[List.getElem?_map,hs];rfl⟩ rfl ?_;refine gO F53 ?_;refine aa.loop (κ:=Nat) ([7,9]++rg 79 19) (fun k=>[(79,.d (.int .i64 k)),(7,.own 3 1)]) (fun k=>[(3,.arr 1 (3,1) ((aq z.ab ⟨cut,2⟩::aq z.ab ⟨cut,6⟩::dO z.ab cut (s.set.data.take k)).map (.int .i64)))]) (fun k=>k<=s.set.data.length) (fun k=>s.set.data.length-k) 0 (Nat.zero_le _) ?_ ?_
     ·(conv=>whnf);repeat (first|exact trivial|(refine sI ?_;conv=>whnf))
      refine And.intro rfl ?_;exact sZ
     intro k hk IH;have iQ:=rW z.ab cut (s.set.data.take k);rw[List.length_take]at iQ;refine aa.head ag F53 2000 ?_;(conv=>whnf);refine ar (fun h5=>?_) (fun h5=>?_)
     ·have kr:k<s.set.data.length:=by simpa using h5
      obtain⟨d,hd⟩:=bd kr;have c2:=vM d.text cut (fZ d (List.mem_of_getElem? hd)) hc;have p1:=p1 d.text;have fA:=vO (l:=z.ab) (c:=cut) hd;refine gO F53 ?_;refine aC (e:=d.enc) (aS hd) rfl ?_;refine gO F53 ?_;refine aa.draw ag bN 7 2000 (by kernel_rfl) ?_;(conv=>whnf);refine bj (c2) ?_;refine gD ?_;refine gS ?_;refine gO F53 ?_;cases hu:Nm.under d.text cut
      ·rw[hu,if_neg (by decide),List.append_nil]at fA;refine aY ?_;refine gO F53 ?_;refine aa.back (IH (k+1) (by omega) (by omega)) ?_;rw[fA];exact sZ
      ·rw[hu,if_pos rfl]at fA;refine bp ?_;refine gO F53 ?_
       with_reducible refine bJ (p1) ?_
       refine gO F53 ?_;refine bA ⟨by simp;omega,by simp[DV.cells]⟩ ?_;refine gO F53 ?_;refine aa.back (IH (k+1) (by omega) (by omega)) ?_;rw[fA];(conv=>whnf);repeat (first|exact trivial|(refine sI ?_;conv=>whnf))
       refine And.intro (by simp) ?_;exact sZ
     ·have aG:s.set.data.length<=k:=by simpa using h5
      rw[List.take_of_length_le aG];(conv=>whnf);refine aa.freeze 3 ?_;(conv=>whnf);refine gO F53 ?_
      with_reducible refine bJ (c4) ?_
      refine gO F53 ?_;rw[nu];exact⟨rfl,rfl⟩
   ·refine aB.run ag (fn:=Tryz.f53) Tryz.func53 (body:=Tryz.f53.body.getD .skip) rfl (by decide) 2000 rfl ?_;(conv=>whnf);refine aO (by simpa using h6) ?_;refine gO F53 ?_;refine aa.draw ag bN 20 2000 (by kernel_rfl) ?_;(conv=>whnf);refine aY ?_;refine gD ?_;refine aO (by simpa using hn) ?_;refine gD ?_;refine gS ?_;refine gO F53 ?_;refine aY ?_;refine gO F53 ?_
    with_reducible refine bJ (p2) ?_
    refine gO F53 ?_;by_cases ai:aq z.ab ⟨cut,6⟩<0
    ·with_reducible refine bJ (p6) ?_
     refine gO F53 ?_;refine aI (decide_eq_true ai) ?_;refine gO F53 ?_
     with_reducible refine bJ p8 ?_
     (conv=>whnf);refine aa.run ag F53 6 ?_;have nu:ia z.ab cut=b8 (aq z.ab ⟨cut,2⟩::aq z.ab ⟨cut,8⟩::dO z.ab cut s.set.data):=by
      rw[ia,ep,if_pos ai,lM,kK];rfl
     have c4:=my z q cut true w 4 (aq z.ab ⟨cut,2⟩::aq z.ab ⟨cut,8⟩::dO z.ab cut s.set.data) hf (fun p hp=>by
      rcases List.mem_cons.1 hp with rfl|hp
      ·exact ga.2
      rcases List.mem_cons.1 hp with rfl|hp
      ·exact ga.2
      exact vP hp) (by simp;omega)
     unfold bG bC at c4;(conv=>whnf);refine aa.kM ag rfl ?_;refine gO F53 ?_;refine aC (e:=s.enc) ⟨h2,by rw[List.getElem?_map,hs];rfl⟩ rfl ?_;refine gO F53 ?_;refine aa.loop (κ:=Nat) ([7,9]++rg 79 19) (fun k=>[(79,.d (.int .i64 k)),(7,.own 3 1)]) (fun k=>[(3,.arr 1 (3,1) ((aq z.ab ⟨cut,2⟩::aq z.ab ⟨cut,8⟩::dO z.ab cut (s.set.data.take k)).map (.int .i64)))]) (fun k=>k<=s.set.data.length) (fun k=>s.set.data.length-k) 0 (Nat.zero_le _) ?_ ?_
     ·(conv=>whnf);repeat (first|exact trivial|(refine sI ?_;conv=>whnf))
      refine And.intro rfl ?_;exact sZ
     intro k hk IH;have iQ:=rW z.ab cut (s.set.data.take k);rw[List.length_take]at iQ;refine aa.head ag F53 2000 ?_;(conv=>whnf);refine ar (fun h5=>?_) (fun h5=>?_)
     ·have kr:k<s.set.data.length:=by simpa using h5
      obtain⟨d,hd⟩:=bd kr;have c2:=vM d.text cut (fZ d (List.mem_of_getElem? hd)) hc;have p1:=p1 d.text;have fA:=vO (l:=z.ab) (c:=cut) hd;refine gO F53 ?_;refine aC (e:=d.enc) (aS hd) rfl ?_;refine gO F53 ?_;refine aa.draw ag bN 7 2000 (by kernel_rfl) ?_;(conv=>whnf);refine bj (c2) ?_;refine gD ?_;refine gS ?_;refine gO F53 ?_;cases hu:Nm.under d.text cut
      ·rw[hu,if_neg (by decide),List.append_nil]at fA;refine aY ?_;refine gO F53 ?_;refine aa.back (IH (k+1) (by omega) (by omega)) ?_;rw[fA];exact sZ
      ·rw[hu,if_pos rfl]at fA;refine bp ?_;refine gO F53 ?_
       with_reducible refine bJ (p1) ?_
       refine gO F53 ?_;refine bA ⟨by simp;omega,by simp[DV.cells]⟩ ?_;refine gO F53 ?_;refine aa.back (IH (k+1) (by omega) (by omega)) ?_;rw[fA];(conv=>whnf);repeat (first|exact trivial|(refine sI ?_;conv=>whnf))
       refine And.intro (by simp) ?_;exact sZ
     ·have aG:s.set.data.length<=k:=by simpa using h5
      rw[List.take_of_length_le aG];(conv=>whnf);refine aa.freeze 3 ?_;(conv=>whnf);refine gO F53 ?_
      with_reducible refine bJ (c4) ?_
      refine gO F53 ?_;rw[nu];exact⟨rfl,rfl⟩
    ·with_reducible refine bJ (p6) ?_
     refine gO F53 ?_;refine aO (decide_eq_false ai) ?_;(conv=>whnf);refine aa.run ag F53 5 ?_;have nu:ia z.ab cut=b8 (aq z.ab ⟨cut,2⟩::aq z.ab ⟨cut,6⟩::dO z.ab cut s.set.data):=by
      rw[ia,ep,if_neg ai,lM,kK];rfl
     have c4:=my z q cut true w 4 (aq z.ab ⟨cut,2⟩::aq z.ab ⟨cut,6⟩::dO z.ab cut s.set.data) hf (fun p hp=>by
      rcases List.mem_cons.1 hp with rfl|hp
      ·exact ga.2
      rcases List.mem_cons.1 hp with rfl|hp
      ·exact ga.2
      exact vP hp) (by simp;omega)
     unfold bG bC at c4;(conv=>whnf);refine aa.kM ag rfl ?_;refine gO F53 ?_;refine aC (e:=s.enc) ⟨h2,by rw[List.getElem?_map,hs];rfl⟩ rfl ?_;refine gO F53 ?_;refine aa.loop (κ:=Nat) ([7,9]++rg 79 19) (fun k=>[(79,.d (.int .i64 k)),(7,.own 3 1)]) (fun k=>[(3,.arr 1 (3,1) ((aq z.ab ⟨cut,2⟩::aq z.ab ⟨cut,6⟩::dO z.ab cut (s.set.data.take k)).map (.int .i64)))]) (fun k=>k<=s.set.data.length) (fun k=>s.set.data.length-k) 0 (Nat.zero_le _) ?_ ?_
     ·(conv=>whnf);repeat (first|exact trivial|(refine sI ?_;conv=>whnf))
      refine And.intro rfl ?_;exact sZ
     intro k hk IH;have iQ:=rW z.ab cut (s.set.data.take k);rw[List.length_take]at iQ;refine aa.head ag F53 2000 ?_;(conv=>whnf);refine ar (fun h5=>?_) (fun h5=>?_)
     ·have kr:k<s.set.data.length:=by simpa using h5
      obtain⟨d,hd⟩:=bd kr;have c2:=vM d.text cut (fZ d (List.mem_of_getElem? hd)) hc;have p1:=p1 d.text;have fA:=vO (l:=z.ab) (c:=cut) hd;refine gO F53 ?_;refine aC (e:=d.enc) (aS hd) rfl ?_;refine gO F53 ?_;refine aa.draw ag bN 7 2000 (by kernel_rfl) ?_;(conv=>whnf);refine bj (c2) ?_;refine gD ?_;refine gS ?_;refine gO F53 ?_;cases hu:Nm.under d.text cut
      ·rw[hu,if_neg (by decide),List.append_nil]at fA;refine aY ?_;refine gO F53 ?_;refine aa.back (IH (k+1) (by omega) (by omega)) ?_;rw[fA];exact sZ
      ·rw[hu,if_pos rfl]at fA;refine bp ?_;refine gO F53 ?_
       with_reducible refine bJ (p1) ?_
       refine gO F53 ?_;refine bA ⟨by simp;omega,by simp[DV.cells]⟩ ?_;refine gO F53 ?_;refine aa.back (IH (k+1) (by omega) (by omega)) ?_;rw[fA];(conv=>whnf);repeat (first|exact trivial|(refine sI ?_;conv=>whnf))
       refine And.intro (by simp) ?_;exact sZ
     ·have aG:s.set.data.length<=k:=by simpa using h5
      rw[List.take_of_length_le aG];(conv=>whnf);refine aa.freeze 3 ?_;(conv=>whnf);refine gO F53 ?_
      with_reducible refine bJ (c4) ?_
      refine gO F53 ?_;rw[nu];exact⟨rfl,rfl⟩
def Dk(a:qj):DV := .agg [.int .i64 a.kind,if a.kind=0\/a.kind=7 then .a7 else .sl (a.ab.map Signed.enc),.str a.cut]
theorem Y3{z:aP}{q:aM}{cut:Text}{b:Bool}(hu:Nm.under q.name z.ad=true)(h1:b=true->gZ z q.name=some cut)(h0:b=false->gZ z q.name=none)(hs:ot q cut b=true):bU z q=ib z q:=by
 rw[bU,if_pos hu];cases b
 ·rw[h0 rfl]
 ·rw[h1 rfl];simp[ot]at hs;simp[hs]
theorem Y4{z:aP}{q:aM}{cut:Text}(hu:Nm.under q.name z.ad=true)(h1:gZ z q.name=some cut)(hs:ot q cut true=false):bU z q=⟨4,bM z.ab (ia z.ab cut),cut⟩:=by
 rw[bU,if_pos hu,h1];simp[ot]at hs;have:¬ (q.name=cut/\(q.type=6\/q.type=8)):=fun⟨e1,e2⟩=>by
  have:=hs e1;omega
 simp[this]
theorem Dl{z:aP}(V:ey z){n c:Text}(h:gZ z n=some c):Nm.valid c=true/\0<=aq z.ab ⟨c,2⟩:=by
 have hm:=List.mem_of_find?_eq_some h;obtain⟨s,hs,e,hc⟩:=n4 hm;have h2:=(Ic hm).1;refine⟨e ▸ V.names s hs,?_⟩;rw[NT]at h2
 simpa using h2
theorem Pz(l:List Signed):∀ (L:List Text),kn l L <:+ L
 |[]=>List.suffix_refl _
 |x::r=>by
  unfold kn;split
  ·exact List.suffix_refl _
  ·exact(Pz l r).trans (List.suffix_cons _ _)
theorem Y5{t:Text}:∀ x∈Nm.labels t,(46:UInt8) ∉ x:=fun x hx=>by
 unfold Nm.labels at hx;split at hx
 ·cases hx
 ·exact Nm.LL t x hx
theorem PA{l:List Signed}{n w:Text}(h:pg l n=some w):Nm.valid w=true:=by
 have hM:∀ x∈[42]::kn l (Nm.labels n),(46:UInt8) ∉ x:=fun x hx=>by
  rcases List.mem_cons.1 hx with rfl|hx
  ·decide
  ·exact Y5 x ((Pz l _).subset hx)
 unfold pg jI at h;generalize kn l (Nm.labels n)=r at *;have e:fQ ([42]::r)=Nm.glue ([42]::r):=by simp[fQ]
 rw[e]at h;split at h
 ·rename_i q;cases h;simp only[Bool.and_eq_true,decide_eq_true_eq]at q;have hs:Nm.split (Nm.glue ([42]::r))=[42]::r:=Nm.LM _ (by simp) hM;simp[Nm.valid,hs,q.1,q.2]
 ·cases h
theorem AO{p:Int}(h:0<=p):b8 [p]=[p]:=by
 simp[b8,du];omega
theorem Y6(a b:Int):b8 [a,b,-1]=b8 [a,b]:=by
 simp[b8,du]
theorem PB{z:aP}(V:ey z)(t:Int):¬ 0<=aq z.ab ⟨[],t⟩:=fun h=>by
 obtain⟨s,h1,h2⟩:=jH h;have e:=congrArg aM.name (qk h2);have:=V.names s (List.mem_of_getElem? h1);simp only at e;rw[<- e]at this;exact absurd this (by decide)
theorem Y7(z:aP)(q:aM)(hf:z.Fits)(hn:q.name.length<=maxLen):au E 25 [z.enc,q.enc] (· = .aJ [Dk (mr z q),.int .i64 (kU z q)]):=by
 have c1:=YS z q.name hf hn;unfold Ie at c1;by_cases hq:jJ q=false\/eT z=false
 ·have h1:kU z q=1:=by
   rw[kU];rcases hq with h|h<;>simp[h]
  rw[mr,h1,if_neg (by decide)];refine eP F25 ?_;by_cases t1:q.type<1
  ·refine aI (decide_eq_true t1) ?_;refine gO F25 ?_;refine bp ?_;refine gO F25 ?_;rfl
  refine aO (decide_eq_false t1) ?_;refine gO F25 ?_;by_cases t2:8<q.type
  ·refine aI (decide_eq_true t2) ?_;refine gO F25 ?_;rfl
  refine aO (decide_eq_false t2) ?_;refine gO F25 ?_;have e:(Nm.valid q.name&&eT z)=false:=by
   rcases hq with h|h
   ·have g1:1<=q.type:=by omega
    have g2:q.type<=8:=by omega
    simp[jJ,g1,g2]at h;simp[h]
   ·simp[h]
  rw[e]at c1;refine aj (c1) ?_;refine gO F25 ?_;refine aY ?_;refine gO F25 ?_;refine bp ?_;refine gO F25 ?_;rfl
 have h2:eT z=true:=by simpa using fun h=>hq (.inr h)
 have h3:jJ q=true:=by simpa using fun h=>hq (.inl h)
 have hN:kU z q=0:=by simp[kU,h2,h3]
 have V:=lN h2;have hS:=Hw h2;simp only[jJ,Bool.and_eq_true,decide_eq_true_eq]at h3;obtain⟨h3,h4,h5⟩:=h3;rw[mr,hN,if_pos rfl];rw[h2,h3]at c1;cases hu:Nm.under q.name z.ad
 ·rw[hu]at c1;have e:bU z q=⟨7,[],[]⟩:=by rw[bU,hu];rfl
  rw[e];refine eP F25 ?_;refine aO (decide_eq_false (by omega)) ?_;refine gO F25 ?_;refine aO (decide_eq_false (by omega)) ?_;refine gO F25 ?_;refine aj (c1) ?_;refine gO F25 ?_;refine bp ?_;refine gO F25 ?_;rfl
 rw[hu]at c1;obtain⟨cut,b,k1,k2,k3⟩:∃ cut b,(b=true->gZ z q.name=some cut)/\(b=false->gZ z q.name=none)/\au E 51 [z.enc,.str q.name] (· = .aJ [.str cut,.bool b,.int .i64 0]):=by
  cases e:gZ z q.name with
  |none=>rw[e]at c1;exact⟨[],false,by simp,by simp,c1⟩
  |some c=>rw[e]at c1;exact⟨c,true,by simp,by simp,c1⟩
 clear c1;have hv:=Yk z q (by have:=V.len;omega);refine eP F25 ?_;refine aO (decide_eq_false (by omega)) ?_;refine gO F25 ?_;refine aO (decide_eq_false (by omega)) ?_;refine gO F25 ?_;refine aj (k3) ?_;refine gO F25 ?_;refine aY ?_;refine gO F25 ?_;refine aY ?_;refine gO F25 ?_;refine lA (hv) rfl ?_;refine gO F25 ?_;refine aa.Y1 ag rfl rfl rfl rfl rfl rfl rfl rfl rfl ?_;refine gO F25 ?_;refine aa.Y2 ag rfl rfl rfl rfl rfl rfl (bg rfl) rfl ?_;refine gO F25 ?_;refine aa.uW ?_;refine aa.run ag F25 2000 ?_;(conv=>whnf);refine aI (by decide) ?_;refine gO F25 ?_;refine aa.qu ag (n:=0) rfl rfl rfl rfl rfl rfl (bg rfl) (bg rfl) rfl (by decide) ?_;refine gO F25 ?_;cases hs:ot q cut b
 ·obtain rfl:b=true:=by
   cases b
   ·simp[ot]at hs
   ·rfl
  obtain⟨v1,v2⟩:=Dl V (k1 rfl);have r0:=YY z q cut [] V hS v1 v2 hs;unfold bG bC at r0;rw[Y4 hu (k1 rfl) hs]
  with_reducible refine bJ (r0) ?_
  refine gO F25 ?_;refine bp ?_;refine gO F25 ?_;rfl
 have r0:=YX z q cut b [] hs;unfold bG bC at r0;rw[Y3 hu k1 k2 hs];clear k1 k2 k3 hs
 with_reducible refine bJ (r0) ?_
 refine gO F25 ?_;refine aY ?_;refine gO F25 ?_;refine aa.again ?_;refine aa.run ag F25 2000 ?_;(conv=>whnf);refine aI (by decide) ?_;refine gO F25 ?_;refine aa.qu ag (n:=1) rfl rfl rfl rfl rfl rfl (bg rfl) (bg rfl) rfl (by decide) ?_;refine gO F25 ?_;have r1:=Yz z q cut b [] V hS;unfold bG bC at r1
 with_reducible refine bJ (r1) ?_
 refine gO F25 ?_;by_cases d1:0<=aq z.ab q
 ·refine aI (by simpa using d1) ?_;refine gO F25 ?_;rw[ib,if_pos d1,AO d1];rfl
 refine aO (by simpa using d1) ?_;refine gO F25 ?_;refine aa.again ?_;refine aa.run ag F25 2000 ?_;(conv=>whnf);refine aI (by decide) ?_;refine gO F25 ?_;refine aa.qu ag (n:=2) rfl rfl rfl rfl rfl rfl (bg rfl) (bg rfl) rfl (by decide) ?_;refine gO F25 ?_;have r2:=YA z q cut b [] V hS;unfold bG bC at r2
 with_reducible refine bJ (r2) ?_
 refine gO F25 ?_;by_cases d2:0<=aq z.ab ⟨q.name,3⟩/\q.type≠8
 ·refine aI (by simpa using d2) ?_;refine gO F25 ?_;rw[ib,if_neg d1,if_pos d2,AO d2.1];rfl
 refine aO (by simpa using d2) ?_;refine gO F25 ?_;refine aa.again ?_;refine aa.run ag F25 2000 ?_;(conv=>whnf);refine aI (by decide) ?_;refine gO F25 ?_;refine aa.qu ag (n:=3) rfl rfl rfl rfl rfl rfl (bg rfl) (bg rfl) rfl (by decide) ?_;refine gO F25 ?_;cases he:gJ z.ab q.name
 case true =>
  have r3:=YU z q cut b [] V hS h3 he;unfold bG bC at r3
  with_reducible refine bJ (r3) ?_
  refine gO F25 ?_;refine bp ?_;refine gO F25 ?_;rw[ib,if_neg d1,if_neg d2,if_pos he];rfl
 have r3:=YV z q cut b [] V h3 hu he;unfold bG bC at r3;rw[ib,if_neg d1,if_neg d2,he,if_neg (by decide)];clear d1 d2 he r0 r1 r2;cases hw:pg z.ab q.name with
 |none =>
  rw[hw]at r3;simp only[Option.getD_none]at r3;have r4:=Pn z q cut b [] V hS h3;have r5:=Po z q cut b [] V hS h3;have r6:=Pw z q cut b [] V (.inl rfl);have r7:=Pp z q cut b [] V hS h3 (.inl rfl);rw[if_pos rfl,Y6]at r7;unfold bG bC at r4 r5 r6 r7
  with_reducible refine bJ (r3) ?_
  refine gO F25 ?_;refine aY ?_;refine gO F25 ?_;refine aa.again ?_;refine aa.run ag F25 2000 ?_;(conv=>whnf);refine aI (by decide) ?_;refine gO F25 ?_;refine aa.qu ag (n:=4) rfl rfl rfl rfl rfl rfl (bg rfl) (bg rfl) rfl (by decide) ?_;refine gO F25 ?_
  with_reducible refine bJ (r4) ?_
  refine gO F25 ?_;refine aO (by simpa using PB V q.type) ?_;refine gO F25 ?_;refine aa.again ?_;refine aa.run ag F25 2000 ?_;(conv=>whnf);refine aI (by decide) ?_;refine gO F25 ?_;refine aa.qu ag (n:=5) rfl rfl rfl rfl rfl rfl (bg rfl) (bg rfl) rfl (by decide) ?_;refine gO F25 ?_
  with_reducible refine bJ (r5) ?_
  refine gO F25 ?_;refine aO (by have:=PB V 3;simp;omega) ?_;refine gO F25 ?_;refine aa.again ?_;refine aa.run ag F25 2000 ?_;(conv=>whnf);refine aI (by decide) ?_;refine gO F25 ?_;refine aa.qu ag (n:=6) rfl rfl rfl rfl rfl rfl (bg rfl) (bg rfl) rfl (by decide) ?_;refine gO F25 ?_
  with_reducible refine bJ (r6) ?_
  refine gO F25 ?_;refine aY ?_;refine gO F25 ?_;refine aa.again ?_;refine aa.run ag F25 2000 ?_;(conv=>whnf);refine aO (by decide) ?_;refine gO F25 ?_
  with_reducible refine bJ (r7) ?_
  refine gO F25 ?_;rfl
 |some w =>
  rw[hw]at r3;simp only[Option.getD_some]at r3;have tD:=PA hw;have Y8:w≠[]:=fun e=>by rw[e]at tD;exact absurd tD (by decide)
  have r4:=Pn z q cut b w V hS h3;have r5:=Po z q cut b w V hS h3;have r7:=Pp z q cut b w V hS h3 (.inr tD);rw[if_neg Y8]at r7;unfold bG bC at r4 r5 r7
  with_reducible refine bJ (r3) ?_
  refine gO F25 ?_;refine aY ?_;refine gO F25 ?_;refine aa.again ?_;refine aa.run ag F25 2000 ?_;(conv=>whnf);refine aI (by decide) ?_;refine gO F25 ?_;refine aa.qu ag (n:=4) rfl rfl rfl rfl rfl rfl (bg rfl) (bg rfl) rfl (by decide) ?_;refine gO F25 ?_
  with_reducible refine bJ (r4) ?_
  refine gO F25 ?_;by_cases d4:0<=aq z.ab ⟨w,q.type⟩
  ·refine aI (by simpa using d4) ?_;refine gO F25 ?_;simp only[if_pos d4];rfl
  refine aO (by simpa using d4) ?_;refine gO F25 ?_;refine aa.again ?_;refine aa.run ag F25 2000 ?_;(conv=>whnf);refine aI (by decide) ?_;refine gO F25 ?_;refine aa.qu ag (n:=5) rfl rfl rfl rfl rfl rfl (bg rfl) (bg rfl) rfl (by decide) ?_;refine gO F25 ?_
  with_reducible refine bJ (r5) ?_
  refine gO F25 ?_;by_cases d5:0<=aq z.ab ⟨w,3⟩/\q.type≠8
  ·refine aI (by simpa using d5) ?_;refine gO F25 ?_;simp only[if_neg d4,if_pos d5];rfl
  refine aO (by simpa using d5) ?_;refine gO F25 ?_;refine aa.again ?_;refine aa.run ag F25 2000 ?_;(conv=>whnf);refine aI (by decide) ?_;refine gO F25 ?_;refine aa.qu ag (n:=6) rfl rfl rfl rfl rfl rfl (bg rfl) (bg rfl) rfl (by decide) ?_;refine gO F25 ?_;cases he:gJ z.ab w
  case true =>
   have r6:=YW z q cut b w V hS h3 tD he;unfold bG bC at r6
   with_reducible refine bJ (r6) ?_
   refine gO F25 ?_;refine bp ?_;refine gO F25 ?_;simp only[if_neg d4,if_neg d5,if_pos he];rfl
  have r6:=Pw z q cut b w V (.inr ⟨tD,he⟩);unfold bG bC at r6
  with_reducible refine bJ (r6) ?_
  refine gO F25 ?_;refine aY ?_;refine gO F25 ?_;refine aa.again ?_;refine aa.run ag F25 2000 ?_;(conv=>whnf);refine aO (by decide) ?_;refine gO F25 ?_
  with_reducible refine bJ (r7) ?_
  refine gO F25 ?_;simp only[if_neg d4,if_neg d5,he];rfl
end Go.Proofs.YtcmnpelmmekdkaaGreatDoor.P
end
