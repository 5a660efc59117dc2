/- Lemmas of mine. Conditions: as stated. -/
import Derived.Test.YtcmnpelmmekdkaaGreatDoorW9
set_option linter.unusedVariables false
set_option linter.unusedSimpArgs false
section
namespace Go.Proofs.YtcmnpelmmekdkaaGreatDoor.P
open Go Go.aA
set_option maxRecDepth 100000
set_option maxHeartbeats 4000000
theorem xX{α:Type}{l:List α}{k:Nat}{x:α}(h:l[k]?=some x):l.drop k=x::l.drop (k+1):=by
 obtain⟨hk,e⟩:=List.getElem?_eq_some_iff.1 h;rw[List.drop_eq_getElem_cons hk,e]
theorem Y9(q:aM)(hq:q.name.length<=maxLen):au E 156 [q.enc] (· = .bool (jJ q)):=by
 unfold jJ;refine eP Tryz.func156 ?_;repeat' (first|with_reducible(first|refine aj (fF _ hq) ?_|refine bj (fF _ hq) ?_|refine cY ?_|refine cN ?_|refine ar (fun _=>?_) (fun _=>?_))|refine gA Tryz.func156 ?_|refine gB ?_|refine gC ?_|with_reducible rfl)
 all_goals simp_all
 all_goals omega
theorem Ij(L M:List Text)(hl:L.length<=1000000):au E 17 [.sl (L.map .str),.sl (M.map .str)] (· = .bool (decide (L=M))):=by
 refine eP F17 ?_;by_cases h0:L.length=M.length
 ·refine aO (by simp;omega) ?_;refine gO F17 ?_;refine aa.loop (κ:=Nat) ([4,5]++rg 11 15) (fun k=>[(5,.d (.int .i64 k))]) (fun _=>[]) (fun k=>k<=L.length/\L.take k=M.take k) (fun k=>L.length-k) 0 ⟨Nat.zero_le _,rfl⟩ ?_ ?_
  ·exact sZ
  rintro k ⟨hk,he⟩ IH;refine aa.head ag F17 2000 ?_;(conv=>whnf);refine ar (fun h5=>?_) (fun h5=>?_)
  ·have ai:k<L.length:=by simpa using h5
   obtain⟨x,hx⟩:=bd ai;obtain⟨y,hy⟩:=bd (show k<M.length by omega);refine gO F17 ?_;refine aa.draw ag bN 9 2000 (by kernel_rfl) ?_;(conv=>whnf);refine aC (e := .str x) (aS hx) rfl ?_;refine gD ?_;refine aC (e := .str y) (aS hy) rfl ?_;refine gD ?_;refine gS ?_;refine gO F17 ?_;by_cases e:x=y
   ·refine aO (by simpa using e) ?_;refine gO F17 ?_;refine aa.back (IH (k+1) ⟨by omega,by rw[dW hx,dW hy,he,e]⟩ (by omega)) ?_;exact sZ
   ·refine aI (by simpa using e) ?_;refine gO F17 ?_;have:L≠M:=fun h=>e (by rw[h,hy]at hx;exact(Option.some.inj hx).symm);simp[this]
  ·have aG:L.length<=k:=by simpa using h5
   rw[List.take_of_length_le aG,List.take_of_length_le (by omega)]at he;refine gO F17 ?_;simp[he]
 ·refine aI (by simp;omega) ?_;refine gO F17 ?_;have:L≠M:=fun e=>h0 (by rw[e]);simp[this]
theorem Y'(z:aP)(n:Text)(V:ey z)(hn:Nm.valid n=true):au E 158 [z.enc,.str n] (· = .str ((gZ z n).getD [])):=by
 have c1:=Ng z (by have:=V.len;omega);have eo:=CN z.ad z.ab;have bW:∀ c∈bO z.ad z.ab,Nm.valid c=true:=fun c hc=>by
  obtain⟨s,hs,rfl,-⟩:=n4 hc;exact V.names s hs
 unfold gZ;generalize bO z.ad z.ab=C at *;have hlen:=V.len;refine eP F158 ?_;refine aj (c1) ?_;refine gO F158 ?_;refine aa.loop (κ:=Nat) ([4,6]++rg 9 16) (fun k=>[(6,.d (.int .i64 k))]) (fun _=>[]) (fun k=>k<=C.length/\C.find? (fun c=>Nm.under n c)=(C.drop k).find? (fun c=>Nm.under n c)) (fun k=>C.length-k) 0 ⟨Nat.zero_le _,rfl⟩ ?_ ?_
 ·exact sZ
 rintro k ⟨hk,he⟩ IH;refine aa.head ag F158 2000 ?_;(conv=>whnf);refine ar (fun h5=>?_) (fun h5=>?_)
 ·have ai:k<C.length:=by simpa using h5
  obtain⟨x,hx⟩:=bd ai;have hd:=xX hx;have c2:=pZ n x (by have:=dK hn;omega) (by have:=dK (bW x (List.mem_of_getElem? hx));omega);refine gO F158 ?_;refine aC (e := .str x) (aS hx) rfl ?_;refine gO F158 ?_;refine aj (c2) ?_;refine gO F158 ?_;rw[hd,List.find?_cons]at he;cases hu:Nm.under n x
  ·rw[hu]at he;refine aY ?_;refine gO F158 ?_;refine aa.back (IH (k+1) ⟨by omega,he⟩ (by omega)) ?_;exact sZ
  ·rw[hu]at he;refine bp ?_;refine gO F158 ?_;refine aC (e := .str x) (aS hx) rfl ?_;refine gO F158 ?_;rw[he];rfl
 ·have aG:C.length<=k:=by simpa using h5
  rw[List.drop_eq_nil_of_le aG]at he;refine gO F158 ?_;rw[he];rfl
theorem Ik(z:aP)(n:Text)(V:ey z)(hn:Nm.valid n=true):au E 162 [z.enc,.str n] (· = .bool (gJ z.ab n)):=by
 have hlen:=V.len;have bW:=V.names;unfold gJ;obtain⟨ad,l⟩:=z;simp only at *;show au E _ [DV.agg [.str ad,.sl (l.map Signed.enc)],.str n] _;clear V;refine eP F162 ?_;refine aa.loop (κ:=Nat) (rg 4 18) (fun k=>[(5,.d (.int .i64 k))]) (fun _=>[]) (fun k=>k<=l.length/\l.any (fun s=>Nm.under s.set.name n)=(l.drop k).any (fun s=>Nm.under s.set.name n)) (fun k=>l.length-k) 0 ⟨Nat.zero_le _,rfl⟩ ?_ ?_
 ·exact sZ
 rintro k ⟨hk,he⟩ IH;refine aa.head ag F162 2000 ?_;(conv=>whnf);refine ar (fun h5=>?_) (fun h5=>?_)
 ·have ai:k<l.length:=by simpa using h5
  obtain⟨x,hx⟩:=bd ai;have hd:=xX hx;have c2:=pZ x.set.name n (by have:=dK (bW x (List.mem_of_getElem? hx));omega) (by have:=dK hn;omega);refine gO F162 ?_;refine aC (e:=x.enc) (aS hx) rfl ?_;refine gO F162 ?_;refine aj (c2) ?_;refine gO F162 ?_;rw[hd,List.any_cons]at he;cases hu:Nm.under x.set.name n
  ·rw[hu,Bool.false_or]at he;refine aY ?_;refine gO F162 ?_;refine aa.back (IH (k+1) ⟨by omega,he⟩ (by omega)) ?_;exact sZ
  ·rw[hu,Bool.true_or]at he;refine bp ?_;refine gO F162 ?_;rw[he]
 ·have aG:l.length<=k:=by simpa using h5
  rw[List.drop_eq_nil_of_le aG]at he;refine gO F162 ?_;rw[he];rfl
theorem PC:∀ {L:List Text} {x:Text},L≠[]->Nm.glue (L++[x])=Nm.glue L++[46]++x
 |[],x,h=>absurd rfl h
 |[a],x,_=>by simp[Nm.glue]
 |a::b::r,x,_=>by
  have:=PC (L:=b::r) (x:=x) (by simp);simp only[List.cons_append,Nm.glue]at this ⊢;rw[this];simp
theorem PD(L:List Text)(hl:L.length<=1000)(hb:∀ t∈L,t.length<=100):au E 216 [.sl (L.map .str)] (· = .str (fQ L)):=by
 have iQ:∀ k,(Nm.glue (L.take k)).length<=101000:=fun k=>by
  have:=H7 (L:=L.take k) fun t ht=>hb t (List.mem_of_mem_take ht);have h2:(L.take k).length<=L.length:=by rw[List.length_take];omega
  omega
 refine eP F216 ?_;by_cases h0:L=[]
 ·subst h0;refine aI (by decide) ?_;refine gO F216 ?_;rfl
 refine aO (by simpa using h0) ?_;obtain⟨y,r,rfl⟩:=List.exists_cons_of_ne_nil h0;refine gO F216 ?_;refine aC (e := .str y) (ta rfl) rfl ?_;refine gO F216 ?_;refine aa.loop (κ:=Nat) ([3,4]++rg 11 13) (fun k=>[(4,.d (.int .i64 k)),(3,.d (.str (Nm.glue ((y::r).take k))))]) (fun _=>[]) (fun k=>1<=k/\k<=(y::r).length) (fun k=>(y::r).length-k) 1 ⟨Nat.le_refl _,by simp⟩ ?_ ?_
 ·(conv=>whnf);repeat (first|exact trivial|(refine sI ?_;conv=>whnf))
  refine And.intro (by simp[Nm.glue]) ?_;exact sZ
 rintro k ⟨dU,hk⟩ IH;have hg:=iQ k;have aH:(y::r).take k≠[]:=fun e=>by
  have:=congrArg List.length e;rw[List.length_take]at this;simp at this;omega
 refine aa.head ag F216 2000 ?_;(conv=>whnf);refine ar (fun h5=>?_) (fun h5=>?_)
 ·have ai:k<(y::r).length:=by simp at h5 ⊢;omega
  obtain⟨x,hx⟩:=bd ai;have iT:=hb x (List.mem_of_getElem? hx);have hs:=dW hx;refine gO F216 ?_;refine bA (by simp;omega) ?_;refine gO F216 ?_;refine aC (e := .str x) (aS hx) rfl ?_;refine gO F216 ?_;refine bA (by simp;omega) ?_;refine gO F216 ?_;refine aa.back (IH (k+1) ⟨by omega,by omega⟩ (by omega)) ?_;rw[hs,PC aH];exact sZ
 ·have aG:(y::r).length<=k:=by simp at h5 ⊢;omega
  rw[List.take_of_length_le aG];refine gO F216 ?_;rfl
theorem Za{t:Text}(hv:Nm.valid t=true):∀ x∈(Nm.labels t).tail,x.length<=100:=fun x hx=>(AM hv).2 x (List.mem_of_mem_tail hx)
theorem Zb(z:aP)(n:Text)(V:ey z)(hn:Nm.valid n=true)(hu:Nm.under n z.ad=true):au E 164 [z.enc,.str n] (· = .str (qm z.ab n)):=by
 have c1:=fun c hc=>Ik z c V hc;unfold qm;refine eP F164 ?_;refine aa.loop (κ:=Text) ([1]++rg 5 8) (fun c=>[(1,.d (.str c))]) (fun _=>[]) (fun c=>Nm.valid c=true/\Nm.under c z.ad=true/\kn z.ab (Nm.labels n)=kn z.ab (Nm.labels c)) (fun c=>(Nm.labels c).length) n ⟨hn,hu,rfl⟩ ?_ ?_
 ·exact sZ
 rintro c ⟨k1,k2,k3⟩ IH;have c2:=c1 c k1;have c3:=z7 c (by have:=dK k1;omega);have YZ:=(AM k1).1;refine aa.head ag F164 2000 ?_;(conv=>whnf);refine aj (c2) ?_;refine gO F164 ?_;cases he:gJ z.ab c
 ·refine bp ?_;have aH:c≠z.ad:=fun e=>by rw[e,V.O0]at he;cases he
  have hr:c≠[46]:=fun e=>aH (by rw[e]at k2 ⊢;exact(Ia k2).symm);have c4:=PD (Nm.labels c).tail (by rw[List.length_tail];omega) (Za k1);have cB:=List.length_pos_iff.2 (H9 hr);refine gO F164 ?_;have hd:List.drop ((some (1:Int)).getD 0).toNat (List.take ((none:Option Int).getD (((Nm.labels c).map DV.str).length:Int)).toNat ((Nm.labels c).map DV.str))=(Nm.labels c).tail.map DV.str:=by
   have e:List.take (Nm.labels c).length ((Nm.labels c).map DV.str)=(Nm.labels c).map DV.str:=List.take_of_length_le (by simp);simp[e]
  refine aj (c3) ?_;refine gO F164 ?_;refine bA ⟨by simp,by simp;omega,by simp,by simp[DV.cells]⟩ ?_;(conv=>whnf);rw[hd];refine gO F164 ?_;refine aj (c4) ?_;refine gO F164 ?_;refine aa.back (IH (fQ (Nm.labels c).tail) ⟨(rV k1 hr).1,Dj k1 hr k2 aH,by rw[k3,Ih he,(rV k1 hr).2]⟩ (Ib k1 hr)) ?_;exact sZ
 ·refine aY ?_;refine gO F164 ?_;rw[k3,Ig he,rR]
theorem Zc(t:Text)(ht:t.length<=maxLen):au E 50 [.str t] (· = .bool (Nm.label t)) :=
 zT (g:=fun t => .bool (Nm.label t)) t ⟨_,Tryz.func50,rfl,by decide⟩ fun w=>(zM ⟨t.toArray⟩ w (size_mk ht)).mono fun e w' ⟨h1,h2⟩=>⟨_,h1,fun _ _=>by simpa using VD.bool _,h2 ▸ Ext.refl _⟩
theorem Zd(L:List Text)(hl:L.length<=1000)(hb:∀ t∈L,t.length<=100):au E 215 [.sl (L.map .str)] (· = match jI L with|some t => .aJ [.str t,.int .i64 0]|none => .aJ [.str [],.int .i64 11]):=by
 have no:Nm.parts L=false->jI L=none:=fun e=>by rw[jI,e];rfl
 have c2:=PD L hl hb;refine eP F215 ?_;refine aa.loop (κ:=Nat) (rg 2 4++rg 7 24) (fun k=>[(4,.d (.int .i64 k))]) (fun _=>[]) (fun k=>k<=L.length/\∀ i x,i<k->L[i]?=some x->gK i x=true) (fun k=>L.length-k) 0 ⟨Nat.zero_le _,fun i x h=>by omega⟩ ?_ ?_
 ·exact sZ
 rintro k ⟨hk,aW⟩ IH;refine aa.head ag F215 2000 ?_;(conv=>whnf);refine ar (fun h5=>?_) (fun h5=>?_)
 ·have ai:k<L.length:=by simpa using h5
  obtain⟨x,hx⟩:=bd ai
  have bad:gK k x=false->jI L=none:=fun e=>no (by
   cases e2:Nm.parts L
   ·rfl
   ·have:=(na.1 e2).2 k x hx
    rw[e]at this;cases this)
  have good:gK k x=true->∀ i y,i<k+1->L[i]?=some y->gK i y=true:=fun e i y hi hy=>by
   rcases Nat.lt_or_eq_of_le (Nat.le_of_lt_succ hi)with h|h
   ·exact aW i y h hy
   ·subst h;rw[hx]at hy;cases hy;exact e
  have c1:=Zc x (oF (by have:=hb x (List.mem_of_getElem? hx);omega));refine gO F215 ?_;refine aC (e := .str x) (aS hx) rfl ?_;refine gO F215 ?_;refine aj (c1) ?_;refine gO F215 ?_;cases mi:Nm.label x
  ·refine bp ?_;refine gO F215 ?_;refine ar (fun h6=>?_) (fun h6=>?_)
   ·have h6:=of_decide_eq_true h6;refine gO F215 ?_;refine bp ?_;refine gO F215 ?_;rw[bad (by simp[gK,mi];omega)]
   ·have h6:=of_decide_eq_false h6;refine gO F215 ?_;refine aC (e := .str x) (aS hx) rfl ?_;refine gO F215 ?_;by_cases h7:x=[42]
    ·refine aO (by simpa using h7) ?_;refine gO F215 ?_;refine aa.back (IH (k+1) ⟨by omega,good (by simp[gK,h7];omega)⟩ (by omega)) ?_;exact sZ
    ·refine aI (by simpa using h7) ?_;refine gO F215 ?_;rw[bad (by simp[gK,mi,h7])]
  ·refine aY ?_;refine gO F215 ?_;refine aY ?_;refine gO F215 ?_;refine aa.back (IH (k+1) ⟨by omega,good (by simp[gK,mi])⟩ (by omega)) ?_;exact sZ
 ·have aG:k=L.length:=by simp at h5;omega
  subst aG;clear IH;refine gO F215 ?_;refine aj (c2) ?_;refine gO F215 ?_;have mu:=fun i x (hx:L[i]?=some x)=>aW i x (List.getElem?_eq_some_iff.1 hx).1 hx;refine ar (fun h6=>?_) (fun h6=>?_)
  ·have h6:=of_decide_eq_true h6
   rw[no (by
    cases e:Nm.parts L
    ·rfl
    ·have:=(na.1 e).1;simp at h6
     omega)]
   refine gO F215 ?_;refine bp ?_;refine gO F215 ?_
   with_reducible rfl
  ·have h6:=of_decide_eq_false h6;have hp:Nm.parts L=true:=na.2 ⟨by simp at h6;omega,mu⟩;unfold jI;rw[hp,Bool.true_and];refine gO F215 ?_;refine ar (fun h7=>?_) (fun h7=>?_)
   ·have h7:=of_decide_eq_true h7;refine gO F215 ?_;rw[decide_eq_false (by omega)];rfl
   ·have h7:=of_decide_eq_false h7;refine gO F215 ?_;rw[decide_eq_true (by omega)];rfl
theorem Ze(c:Text)(hc:Nm.valid c=true):au E 163 [.str c] (· = match jI ([42]::Nm.labels c)with|some t => .aJ [.str t,.bool true]|none => .aJ [.str [],.bool false]):=by
 have c1:=z7 c (by have:=dK hc;omega);have hl:=AM hc
 have hj:=Zd ([42]::Nm.labels c) (by simp;omega) (fun t ht=>by
  rcases List.mem_cons.1 ht with rfl|h
  ·simp
  ·exact hl.2 t h)
 refine au.run ag (fn:=Tryz.f163) Tryz.func163 (body:=Tryz.f163.body.getD .skip) rfl (by decide) 7 ?_;(conv=>whnf);refine aa.kM ag rfl ?_;refine gO Tryz.func163 ?_;refine aj (c1) ?_;refine gO Tryz.func163 ?_;refine bA ⟨by simp;omega,by simp[DV.cells]⟩ ?_;(conv=>whnf);refine aa.freeze 0 ?_;(conv=>whnf);refine gO Tryz.func163 ?_;cases hJ:jI ([42]::Nm.labels c)with
 |none =>
  rw[hJ]at hj;refine aj (hj) ?_;refine gO Tryz.func163 ?_;rfl
 |some t =>
  rw[hJ]at hj;refine aj (hj) ?_;refine gO Tryz.func163 ?_;rfl
theorem Zf(z:aP)(q:aM):(ib z q).kind≠0/\(ib z q).kind≠7:=by
 unfold ib;repeat' split
 all_goals simp
theorem PE{z:aP}{q:aM}(h:(mr z q).kind=0\/(mr z q).kind=7):(mr z q).ab=[]:=by
 have hk:=Zf z q
 revert h
 unfold mr bU;repeat' split
 all_goals first|(intro h;rcases h with h|h<;>first|exact absurd h hk.1|exact absurd h hk.2)|(intro h;rfl)|(intro h;simp at h)
theorem PF{a:qj}(h:a.kind=0\/a.kind=7->a.ab=[]):norm (Dk a)=a.enc:=by
 unfold Dk;by_cases e:a.kind=0\/a.kind=7
 ·rw[if_pos e];simp[norm,sU,qj.enc,h e]
 ·rw[if_neg e];rfl
theorem Zg(z:aP)(q:aM)(hf:z.Fits)(hn:q.name.length<=maxLen):au E 25 [z.enc,q.enc] (· = .aJ [(mr z q).enc,.int .i64 (kU z q)]):=by
 refine au.norm ?_;refine(Y7 z q hf hn).mono fun r h=>?_;subst h;have:=PF (PE (z:=z) (q:=q));simp only[norm,sU,this]
def lP(z:aP)(q:aM)(L:List Signed):List Signed:=match z.ab[(aq z.ab q).toNat]? with
 |some s=>if 0<=aq z.ab q/\L.any (cC q)=false then L++[s]else L
 |none=>L
def mz(z:aP)(q:aM)(L:List Signed):Nat:=if 0<=aq z.ab q/\L.any (cC q)=false then 1 else 0
theorem Dm(z:aP)(q:aM)(hf:z.gY)(h:¬ 0<=aq z.ab q):aB E 160 [] [.d .a7,.d z.enc,.d (.str q.name),.d (.int .i64 q.type)] (fun a b=>a=.own 0 0/\b=[.arr 0 (57,5) [],.cells [.d (.str z.ad),.d (vu z.ab)]]):=by
 have c1:=vz z q hf.ab;refine aB.run ag (fn:=Tryz.f160) Tryz.func160 (body:=Tryz.f160.body.getD .skip) rfl (by decide) 2 rfl ?_;(conv=>whnf);refine aa.jV 0 (57,5) (by decide) rfl ?_;refine gO F160 ?_;refine aj (c1) ?_;refine gO F160 ?_;refine aI (decide_eq_true (by omega)) ?_;refine gO F160 ?_;exact⟨rfl,rfl⟩
theorem PG(z:aP)(q:aM)(hf:z.gY){s:Signed}(h:0<=aq z.ab q)(hs:z.ab[(aq z.ab q).toNat]?=some s):aB E 160 [] [.d .a7,.d z.enc,.d (.str q.name),.d (.int .i64 q.type)] (fun a b=>a=.own 0 1/\b=[.arr 1 (57,5) [s.enc],.cells [.d (.str z.ad),.d (vu z.ab)]]):=by
 have c1:=vz z q hf.ab;refine aB.run ag (fn:=Tryz.f160) Tryz.func160 (body:=Tryz.f160.body.getD .skip) rfl (by decide) 2 rfl ?_;(conv=>whnf);refine aa.jV 0 (57,5) (by decide) rfl ?_;refine gO F160 ?_;refine aj (c1) ?_;refine gO F160 ?_;refine aO (decide_eq_false (by omega)) ?_;refine gO F160 ?_;refine aa.uW ?_;refine aa.run ag F160 2000 ?_;(conv=>whnf);refine aO (by decide) ?_;refine gO F160 ?_;refine aC (e:=s.enc) ⟨by omega,by rw[List.getElem?_map,hs];rfl⟩ rfl ?_;refine gO F160 ?_;refine bA ⟨by simp,by simp[DV.cells]⟩ ?_;refine gO F160 ?_;exact⟨rfl,rfl⟩
theorem Zh(z:aP)(q:aM)(L:List Signed)(hf:z.gY)(hl:L.length<=1000000):aB E 160 [.arr 0 (57,5) (L.map Signed.enc)] [.own 0 0,.d z.enc,.d (.str q.name),.d (.int .i64 q.type)] (fun a b=>a=.own 0 (mz z q L)/\b=[.arr (mz z q L) (57,5) ((lP z q L).map Signed.enc),.cells [.d (.str z.ad),.d (vu z.ab)]]):=by
 have c1:=vz z q hf.ab;refine aB.run ag (fn:=Tryz.f160) Tryz.func160 (body:=Tryz.f160.body.getD .skip) rfl (by decide) 2000 rfl ?_;(conv=>whnf);refine aj (c1) ?_;refine gO F160 ?_;by_cases h:aq z.ab q<0
 ·refine aI (decide_eq_true h) ?_;refine gO F160 ?_;have e:lP z q L=L:=by
   unfold lP;split
   ·rw[if_neg (by omega)]
   ·rfl
  rw[e,mz,if_neg (by omega)];exact⟨rfl,rfl⟩
 refine aO (decide_eq_false h) ?_;obtain⟨s,hs,hq⟩:=jH (l:=z.ab) (q:=q) (by omega);have e:lP z q L=if L.any (cC q)=false then L++[s]else L:=by
  unfold lP;rw[hs];have h0:0<=aq z.ab q:=by omega
  simp only[h0,true_and]
 rw[e];refine gO F160 ?_;refine aa.loop (κ:=Nat) ([8,10]++rg 19 25) (fun k=>[(10,.d (.int .i64 k))]) (fun _=>[]) (fun k=>k<=L.length/\L.any (cC q)=(L.drop k).any (cC q)) (fun k=>L.length-k) 0 ⟨Nat.zero_le _,rfl⟩ ?_ ?_
 ·exact sZ
 rintro k ⟨hk,he⟩ IH;refine aa.head ag F160 2000 ?_;(conv=>whnf);refine ar (fun h5=>?_) (fun h5=>?_)
 ·have ai:k<L.length:=by simpa using h5
  obtain⟨x,hx⟩:=bd ai;have hd:=xX hx;rw[hd,List.any_cons]at he;refine gO F160 ?_;refine bA ⟨by omega,by simp;omega⟩ ?_;refine gO F160 ?_;refine aC (e:=x.enc) (aS hx) rfl ?_;refine gO F160 ?_;by_cases h6:x.set.name=q.name
  ·refine aI (by simpa using h6) ?_;refine gO F160 ?_;refine bA ⟨by omega,by simp;omega⟩ ?_;refine gO F160 ?_;refine aC (e:=x.enc) (aS hx) rfl ?_;refine gO F160 ?_;by_cases h7:x.set.type=q.type
   ·refine aI (by simpa using h7) ?_;refine gO F160 ?_;have ha:cC q x=true:=by simp[cC,h6,h7]
    rw[mz,he,ha,Bool.true_or,if_neg (fun h=>by simp at h),if_neg (by decide)];exact⟨rfl,rfl⟩
   ·refine aO (by simpa using h7) ?_;refine gO F160 ?_;have ha:cC q x=false:=by simp[cC,h7]
    refine aa.back (IH (k+1) ⟨by omega,by rw[he,ha,Bool.false_or]⟩ (by omega)) ?_;exact sZ
  ·refine aO (by simpa using h6) ?_;refine gO F160 ?_;refine aY ?_;refine gO F160 ?_;have ha:cC q x=false:=by simp[cC,h6]
   refine aa.back (IH (k+1) ⟨by omega,by rw[he,ha,Bool.false_or]⟩ (by omega)) ?_;exact sZ
 ·have aG:L.length<=k:=by simpa using h5
  rw[List.drop_eq_nil_of_le aG]at he;rw[mz,he,List.any_nil,if_pos rfl,if_pos ⟨by omega,rfl⟩];refine gO F160 ?_;refine aC (e:=s.enc) ⟨by omega,by rw[List.getElem?_map,hs];rfl⟩ rfl ?_;refine gO F160 ?_;refine bA ⟨by simp;omega,by simp[DV.cells]⟩ ?_;refine gO F160 ?_;exact⟨rfl,by simp⟩
theorem Il(z:aP)(q:aM)(L:List Signed)(hf:z.gY)(hl:L.length<=1000000):aB E 160 [.arr 0 (57,5) (L.map Signed.enc)] [.own 0 0,.d z.enc,.d (.str q.name),.d (.int .i64 q.type)] (fun a b=>a=.own 0 (mz z q L)/\b=[.arr (mz z q L) (57,5) ((lP z q L).map Signed.enc)]) :=
 aB.kV ((Zh z q L hf hl).mono fun a b ⟨h1,h2⟩=>⟨h1,by rw[h2];rfl⟩) rfl
def qv(z:aP)(n:Text)(L:List Signed):List Signed:=match z.ab[(cK z.ab n).toNat]? with
 |some s=>if 0<=cK z.ab n then lP z ⟨s.set.name,8⟩ L else L
 |none=>L
def qw(z:aP)(n:Text)(L:List Signed):Nat:=match z.ab[(cK z.ab n).toNat]? with
 |some s=>if 0<=cK z.ab n then mz z ⟨s.set.name,8⟩ L else 0
 |none=>0
theorem Zi(z:aP)(n:Text)(L:List Signed)(V:ey z)(hf:z.gY)(hn:Nm.valid n=true)(hl:L.length<=1000000):aB E 161 [.arr 0 (57,5) (L.map Signed.enc)] [.own 0 0,.d z.enc,.d (.str n)] (fun a b=>a=.own 0 (qw z n L)/\b=[.arr (qw z n L) (57,5) ((qv z n L).map Signed.enc)]):=by
 have Zj:=X6 V.sorted (n:=n);have hlen:=V.len;have c1:=fun q=>Il z q L hf hl;refine aB.kV (H2:=[.arr (qw z n L) (57,5) ((qv z n L).map Signed.enc)]) ?_ rfl;refine aB.run ag (fn:=Tryz.f161) Tryz.func161 (body:=Tryz.f161.body.getD .skip) rfl (by decide) 2000 rfl ?_;(conv=>whnf);refine aa.loop (κ:=Nat) ([6,7,8]++rg 13 25) (fun k=>[(7,.d (.int .i64 ((k:Int)-1)))]) (fun _=>[]) (fun k=>k<=z.ab.length/\fI (ql z.ab n) k=cK z.ab n) (fun k=>k) z.ab.length ⟨Nat.le_refl _,Zj⟩ ?_ ?_
 ·(conv=>whnf);repeat (first|exact trivial|(refine sI ?_;conv=>whnf))
  refine And.intro (by rw[wrap64 (by simp;omega) (by simp;omega)];simp) ?_;exact sZ
 rintro k ⟨hk,he⟩ IH;refine aa.head ag F161 2000 ?_;(conv=>whnf);cases k with
 |zero =>
  refine aO (by decide) ?_;refine gO F161 ?_;have hc:qv z n L=L:=by
   rw[fI]at he;unfold qv;split
   ·rw[if_neg (by omega)]
   ·rfl
  have hg:qw z n L=0:=by
   rw[fI]at he;unfold qw;split
   ·rw[if_neg (by omega)]
   ·rfl
  rw[hc,hg];exact⟨rfl,rfl⟩
 |succ k =>
  obtain⟨x,hx⟩:=bd (l:=z.ab) (k:=k) (by omega);have ek:((k+1:Nat):Int)-1=(k:Int):=by omega
  rw[ek];refine aI (by simp) ?_;refine gO F161 ?_;refine aC (e:=x.enc) (aS hx) rfl ?_;refine gO F161 ?_;have c2:=xq x.set.name n (by have:=dK (V.names x (List.mem_of_getElem? hx));omega) (by have:=dK hn;omega);have skip:ql z.ab n k=false->fI (ql z.ab n) k=cK z.ab n:=fun h=>by
   rw[fI,h]at he
   simpa using he
  by_cases h8:x.set.type=8
  ·refine aI (by simpa using h8) ?_;refine gO F161 ?_;refine aj (c2) ?_;refine gO F161 ?_;by_cases ho:bq x.set.name n<=0
   ·refine aI (decide_eq_true ho) ?_;have hb:ql z.ab n k=true:=by simp[ql,hx,h8,ho]
    have hc:cK z.ab n=k:=by rw[<- he,fI,hb];simp
    have ln:qv z n L=lP z ⟨x.set.name,8⟩ L:=by
     unfold qv;rw[hc,Int.toNat_natCast,hx];simp
    have CX:qw z n L=mz z ⟨x.set.name,8⟩ L:=by
     unfold qw;rw[hc,Int.toNat_natCast,hx];simp
    have c1:=c1 ⟨x.set.name,8⟩;simp only at c1;rw[ln,CX];refine gO F161 ?_
    with_reducible refine bJ (c1) ?_
    refine gO F161 ?_;rw[Nat.zero_add];exact⟨rfl,rfl⟩
   ·refine aO (decide_eq_false ho) ?_;refine gO F161 ?_;refine aa.back (IH k ⟨by omega,skip (by simp[ql,hx,ho])⟩ (by omega)) ?_;exact sZ
  ·refine aO (by simpa using h8) ?_;refine gO F161 ?_;refine aY ?_;refine gO F161 ?_;refine aa.back (IH k ⟨by omega,skip (by simp[ql,hx,h8])⟩ (by omega)) ?_;exact sZ
end Go.Proofs.YtcmnpelmmekdkaaGreatDoor.P
end
section
namespace Go.Proofs.YtcmnpelmmekdkaaGreatDoor.P
open Go Go.aA
theorem Zk{z:aP}{q:aM}{L:List Signed}(h:¬ 0<=aq z.ab q):lP z q L=L:=by
 unfold lP;split
 ·rw[if_neg fun e=>h e.1]
 ·rfl
theorem Zl{z:aP}{q:aM}{L:List Signed}{s:Signed}(h:0<=aq z.ab q)(hs:z.ab[(aq z.ab q).toNat]?=some s):lP z q L=if L.any (cC q)=false then L++[s]else L:=by
 unfold lP;rw[hs];simp only[h,true_and]
theorem Im{l:List Signed}{q:aM}{ps:List Int}(hs:fe l)(hp:lL l ps)(h0:0<=aq l q):(bM l ps).any (cC q)=decide (aq l q∈ps):=by
 rw[Bool.eq_iff_iff,decide_eq_true_eq,List.any_eq_true];simp only[bM,List.mem_filterMap];constructor
 ·rintro⟨s,⟨p,hm,hx⟩,ha⟩;have e:=xT hs hx;rw[<- qk ha]at e;have:=(hp p hm).1;rw[e,Int.toNat_of_nonneg this];exact hm
 ·intro hm;obtain⟨s,hx,ha⟩:=jH h0;exact⟨s,⟨_,hm,hx⟩,ha⟩
theorem Io{z:aP}{q:aM}{ps:List Int}(hs:fe z.ab)(hp:lL z.ab ps):lP z q (bM z.ab ps)=bM z.ab (du ps (aq z.ab q)):=by
 by_cases h:0<=aq z.ab q
 ·obtain⟨s,hx,ha⟩:=jH h;rw[Zl h hx,Im hs hp h,OU h hx];by_cases hm:aq z.ab q∈ps
  ·simp[hm]
  ·simp[hm]
 ·rw[Zk h,du,if_pos (.inl (by omega))]
theorem Zm{z:aP}{n:Text}{ps:List Int}(hs:fe z.ab)(hp:lL z.ab ps):qv z n (bM z.ab ps)=bM z.ab (du ps (cK z.ab n)):=by
 by_cases h:0<=cK z.ab n
 ·obtain⟨s,hx,ht⟩:=X7 h;have e:=xT hs hx;rw[ht]at e;unfold qv;rw[hx];simp only[h,if_true];rw[Io hs hp,e,Int.toNat_of_nonneg h]
 ·have e:qv z n (bM z.ab ps)=bM z.ab ps:=by
   unfold qv;split
   ·rw[if_neg h]
   ·rfl
  rw[e,du,if_pos (.inl (by omega))]
end Go.Proofs.YtcmnpelmmekdkaaGreatDoor.P
end
