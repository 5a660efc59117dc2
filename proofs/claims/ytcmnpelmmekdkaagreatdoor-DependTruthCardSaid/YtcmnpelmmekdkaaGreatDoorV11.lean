/- Lemmas of mine. Conditions: as stated. -/
import Derived.Test.YtcmnpelmmekdkaaGreatDoorV9
import Derived.Test.YtcmnpelmmekdkaaGreatDoorV10
import Derived.Calls
set_option linter.unusedVariables false
set_option linter.unusedSimpArgs false
section
namespace Go.Proofs.YtcmnpelmmekdkaaGreatDoor.P
open Go Go.aA
set_option maxRecDepth 100000
set_option maxHeartbeats 4000000
theorem AY{α:Type}{l:List α}{k:Nat}{x:α}(h:l[k]?=some x):l.drop k=x::l.drop (k+1):=by
 obtain⟨hk,e⟩:=List.getElem?_eq_some_iff.1 h;rw[List.drop_eq_getElem_cons hk,e]
theorem Zc(q:aG)(hq:q.name.length<=maxLen):az E 156 [q.enc] (· = .bool (dV q)):=by
 unfold dV;refine eP Tryz.func156 ?_;repeat' (first|with_reducible(first|refine aj (fU _ hq) ?_|refine bl (fU _ hq) ?_|refine cY ?_|refine cN ?_|refine ar (fun _=>?_) (fun _=>?_))|refine gA Tryz.func156 ?_|refine gB ?_|refine gC ?_|with_reducible rfl)
 all_goals simp_all
 all_goals omega
theorem PJ(L M:List Text)(hl:L.length<=1000000):az E 17 [.sl (L.map .str),.sl (M.map .str)] (· = .bool (decide (L=M))):=by
 refine eP F17 ?_;by_cases h0:L.length=M.length
 ·refine aP (by simp;omega) ?_;refine gO F17 ?_;refine aa.loop (κ:=Nat) ([4,5]++rg 11 15) (fun k=>[(5,.d (.int .i64 k))]) (fun _=>[]) (fun k=>k<=L.length/\L.take k=M.take k) (fun k=>L.length-k) 0 ⟨Nat.zero_le _,rfl⟩ ?_ ?_
  ·exact sZ
  rintro k ⟨hk,he⟩ IH;refine aa.head ag F17 2000 ?_;(conv=>whnf);refine ar (fun h5=>?_) (fun h5=>?_)
  ·have ai:k<L.length:=by simpa using h5
   obtain⟨x,hx⟩:=bd ai;obtain⟨y,hy⟩:=bd (show k<M.length by omega);refine gO F17 ?_;refine aa.draw ag bU 9 2000 (by kernel_rfl) ?_;(conv=>whnf);refine aD (e := .str x) (aU hx) rfl ?_;refine gD ?_;refine aD (e := .str y) (aU hy) rfl ?_;refine gD ?_;refine gS ?_;refine gO F17 ?_;by_cases e:x=y
   ·refine aP (by simpa using e) ?_;refine gO F17 ?_;refine aa.back (IH (k+1) ⟨by omega,by rw[ey hx,ey hy,he,e]⟩ (by omega)) ?_;exact sZ
   ·refine aJ (by simpa using e) ?_;refine gO F17 ?_;have:L≠M:=fun h=>e (by rw[h,hy]at hx;exact(Option.some.inj hx).symm);simp[this]
  ·have aL:L.length<=k:=by simpa using h5
   rw[List.take_of_length_le aL,List.take_of_length_le (by omega)]at he;refine gO F17 ?_;simp[he]
 ·refine aJ (by simp;omega) ?_;refine gO F17 ?_;have:L≠M:=fun e=>h0 (by rw[e]);simp[this]
theorem Zd(z:aQ)(n:Text)(V:eH z)(hn:Nm.valid n=true):az E 158 [z.enc,.str n] (· = .str ((gW z n).getD [])):=by
 have c1:=Nn z (by have:=V.len;omega);have ez:=C2 z.ad z.ab;have bQ:∀ c∈bO z.ad z.ab,Nm.valid c=true:=fun c hc=>by
  obtain⟨s,hs,rfl,-⟩:=nZ hc;exact V.names s hs
 unfold gW;generalize bO z.ad z.ab=C at *;have hlen:=V.len;refine eP F158 ?_;refine aj (c1) ?_;refine gO F158 ?_;refine aa.loop (κ:=Nat) ([4,6]++rg 9 16) (fun k=>[(6,.d (.int .i64 k))]) (fun _=>[]) (fun k=>k<=C.length/\C.find? (fun c=>Nm.under n c)=(C.drop k).find? (fun c=>Nm.under n c)) (fun k=>C.length-k) 0 ⟨Nat.zero_le _,rfl⟩ ?_ ?_
 ·exact sZ
 rintro k ⟨hk,he⟩ IH;refine aa.head ag F158 2000 ?_;(conv=>whnf);refine ar (fun h5=>?_) (fun h5=>?_)
 ·have ai:k<C.length:=by simpa using h5
  obtain⟨x,hx⟩:=bd ai;have hd:=AY hx;have c2:=pY n x (by have:=dF hn;omega) (by have:=dF (bQ x (List.mem_of_getElem? hx));omega);refine gO F158 ?_;refine aD (e := .str x) (aU hx) rfl ?_;refine gO F158 ?_;refine aj (c2) ?_;refine gO F158 ?_;rw[hd,List.find?_cons]at he;cases hu:Nm.under n x
  ·rw[hu]at he;refine aV ?_;refine gO F158 ?_;refine aa.back (IH (k+1) ⟨by omega,he⟩ (by omega)) ?_;exact sZ
  ·rw[hu]at he;refine bq ?_;refine gO F158 ?_;refine aD (e := .str x) (aU hx) rfl ?_;refine gO F158 ?_;rw[he];rfl
 ·have aL:C.length<=k:=by simpa using h5
  rw[List.drop_eq_nil_of_le aL]at he;refine gO F158 ?_;rw[he];rfl
theorem ID(z:aQ)(n:Text)(V:eH z)(hn:Nm.valid n=true):az E 162 [z.enc,.str n] (· = .bool (gG z.ab n)):=by
 have hlen:=V.len;have bQ:=V.names;unfold gG;obtain⟨ad,l⟩:=z;simp only at *;show az E _ [DV.agg [.str ad,.sl (l.map Signed.enc)],.str n] _;clear V;refine eP F162 ?_;refine aa.loop (κ:=Nat) (rg 4 18) (fun k=>[(5,.d (.int .i64 k))]) (fun _=>[]) (fun k=>k<=l.length/\l.any (fun s=>Nm.under s.set.name n)=(l.drop k).any (fun s=>Nm.under s.set.name n)) (fun k=>l.length-k) 0 ⟨Nat.zero_le _,rfl⟩ ?_ ?_
 ·exact sZ
 rintro k ⟨hk,he⟩ IH;refine aa.head ag F162 2000 ?_;(conv=>whnf);refine ar (fun h5=>?_) (fun h5=>?_)
 ·have ai:k<l.length:=by simpa using h5
  obtain⟨x,hx⟩:=bd ai;have hd:=AY hx;have c2:=pY x.set.name n (by have:=dF (bQ x (List.mem_of_getElem? hx));omega) (by have:=dF hn;omega);refine gO F162 ?_;refine aD (e:=x.enc) (aU hx) rfl ?_;refine gO F162 ?_;refine aj (c2) ?_;refine gO F162 ?_;rw[hd,List.any_cons]at he;cases hu:Nm.under x.set.name n
  ·rw[hu,Bool.false_or]at he;refine aV ?_;refine gO F162 ?_;refine aa.back (IH (k+1) ⟨by omega,he⟩ (by omega)) ?_;exact sZ
  ·rw[hu,Bool.true_or]at he;refine bq ?_;refine gO F162 ?_;rw[he]
 ·have aL:l.length<=k:=by simpa using h5
  rw[List.drop_eq_nil_of_le aL]at he;refine gO F162 ?_;rw[he];rfl
theorem PK:∀ {L:List Text} {x:Text},L≠[]->Nm.glue (L++[x])=Nm.glue L++[46]++x
 |[],x,h=>absurd rfl h
 |[a],x,_=>by simp[Nm.glue]
 |a::b::r,x,_=>by
  have:=PK (L:=b::r) (x:=x) (by simp);simp only[List.cons_append,Nm.glue]at this ⊢;rw[this];simp
theorem PL(L:List Text)(hl:L.length<=1000)(hb:∀ t∈L,t.length<=100):az E 216 [.sl (L.map .str)] (· = .str (fN L)):=by
 have iQ:∀ k,(Nm.glue (L.take k)).length<=101000:=fun k=>by
  have:=Is (L:=L.take k) fun t ht=>hb t (List.mem_of_mem_take ht);have h2:(L.take k).length<=L.length:=by rw[List.length_take];omega
  omega
 refine eP F216 ?_;by_cases h0:L=[]
 ·subst h0;refine aJ (by decide) ?_;refine gO F216 ?_;rfl
 refine aP (by simpa using h0) ?_;obtain⟨y,r,rfl⟩:=List.exists_cons_of_ne_nil h0;refine gO F216 ?_;refine aD (e := .str y) (te rfl) rfl ?_;refine gO F216 ?_;refine aa.loop (κ:=Nat) ([3,4]++rg 11 13) (fun k=>[(4,.d (.int .i64 k)),(3,.d (.str (Nm.glue ((y::r).take k))))]) (fun _=>[]) (fun k=>1<=k/\k<=(y::r).length) (fun k=>(y::r).length-k) 1 ⟨Nat.le_refl _,by simp⟩ ?_ ?_
 ·(conv=>whnf);repeat (first|exact trivial|(refine sI ?_;conv=>whnf))
  refine And.intro (by simp[Nm.glue]) ?_;exact sZ
 rintro k ⟨ea,hk⟩ IH;have hg:=iQ k;have aM:(y::r).take k≠[]:=fun e=>by
  have:=congrArg List.length e;rw[List.length_take]at this;simp at this;omega
 refine aa.head ag F216 2000 ?_;(conv=>whnf);refine ar (fun h5=>?_) (fun h5=>?_)
 ·have ai:k<(y::r).length:=by simp at h5 ⊢;omega
  obtain⟨x,hx⟩:=bd ai;have iT:=hb x (List.mem_of_getElem? hx);have hs:=ey hx;refine gO F216 ?_;refine bB (by simp;omega) ?_;refine gO F216 ?_;refine aD (e := .str x) (aU hx) rfl ?_;refine gO F216 ?_;refine bB (by simp;omega) ?_;refine gO F216 ?_;refine aa.back (IH (k+1) ⟨by omega,by omega⟩ (by omega)) ?_;rw[hs,PK aM];exact sZ
 ·have aL:(y::r).length<=k:=by simp at h5 ⊢;omega
  rw[List.take_of_length_le aL];refine gO F216 ?_;rfl
theorem Ze{t:Text}(hv:Nm.valid t=true):∀ x∈(Nm.labels t).tail,x.length<=100:=fun x hx=>(AT hv).2 x (List.mem_of_mem_tail hx)
theorem Zf(z:aQ)(n:Text)(V:eH z)(hn:Nm.valid n=true)(hu:Nm.under n z.ad=true):az E 164 [z.enc,.str n] (· = .str (ql z.ab n)):=by
 have c1:=fun c hc=>ID z c V hc;unfold ql;refine eP F164 ?_;refine aa.loop (κ:=Text) ([1]++rg 5 8) (fun c=>[(1,.d (.str c))]) (fun _=>[]) (fun c=>Nm.valid c=true/\Nm.under c z.ad=true/\kr z.ab (Nm.labels n)=kr z.ab (Nm.labels c)) (fun c=>(Nm.labels c).length) n ⟨hn,hu,rfl⟩ ?_ ?_
 ·exact sZ
 rintro c ⟨k1,k2,k3⟩ IH;have c2:=c1 c k1;have c3:=Ag c (by have:=dF k1;omega);have Y3:=(AT k1).1;refine aa.head ag F164 2000 ?_;(conv=>whnf);refine aj (c2) ?_;refine gO F164 ?_;cases he:gG z.ab c
 ·refine bq ?_;have aM:c≠z.ad:=fun e=>by rw[e,V.O6]at he;cases he
  have hr:c≠[46]:=fun e=>aM (by rw[e]at k2 ⊢;exact(Iv k2).symm);have c4:=PL (Nm.labels c).tail (by rw[List.length_tail];omega) (Ze k1);have cD:=List.length_pos_iff.2 (Iu hr);refine gO F164 ?_;have hd:List.drop ((some (1:Int)).getD 0).toNat (List.take ((none:Option Int).getD (((Nm.labels c).map DV.str).length:Int)).toNat ((Nm.labels c).map DV.str))=(Nm.labels c).tail.map DV.str:=by
   have e:List.take (Nm.labels c).length ((Nm.labels c).map DV.str)=(Nm.labels c).map DV.str:=List.take_of_length_le (by simp);simp[e]
  refine aj (c3) ?_;refine gO F164 ?_;refine bB ⟨by simp,by simp;omega,by simp,by simp[DV.cells]⟩ ?_;(conv=>whnf);rw[hd];refine gO F164 ?_;refine aj (c4) ?_;refine gO F164 ?_;refine aa.back (IH (fN (Nm.labels c).tail) ⟨(rY k1 hr).1,Dy k1 hr k2 aM,by rw[k3,IB he,(rY k1 hr).2]⟩ (Iw k1 hr)) ?_;exact sZ
 ·refine aV ?_;refine gO F164 ?_;rw[k3,IA he,rU]
theorem Zg(t:Text)(ht:t.length<=maxLen):az E 50 [.str t] (· = .bool (Nm.label t)) :=
 z7 (g:=fun t => .bool (Nm.label t)) t ⟨_,Tryz.func50,rfl,by decide⟩ fun w=>(zU ⟨t.toArray⟩ w (size_mk ht)).mono fun e w' ⟨h1,h2⟩=>⟨_,h1,fun _ _=>by simpa using VD.bool _,h2 ▸ Ext.refl _⟩
theorem Zh(L:List Text)(hl:L.length<=1000)(hb:∀ t∈L,t.length<=100):az E 215 [.sl (L.map .str)] (· = match jO L with|some t => .aK [.str t,.int .i64 0]|none => .aK [.str [],.int .i64 11]):=by
 have no:Nm.parts L=false->jO L=none:=fun e=>by rw[jO,e];rfl
 have c2:=PL L hl hb;refine eP F215 ?_;refine aa.loop (κ:=Nat) (rg 2 4++rg 7 24) (fun k=>[(4,.d (.int .i64 k))]) (fun _=>[]) (fun k=>k<=L.length/\∀ i x,i<k->L[i]?=some x->gH i x=true) (fun k=>L.length-k) 0 ⟨Nat.zero_le _,fun i x h=>by omega⟩ ?_ ?_
 ·exact sZ
 rintro k ⟨hk,aX⟩ IH;refine aa.head ag F215 2000 ?_;(conv=>whnf);refine ar (fun h5=>?_) (fun h5=>?_)
 ·have ai:k<L.length:=by simpa using h5
  obtain⟨x,hx⟩:=bd ai
  have bad:gH k x=false->jO L=none:=fun e=>no (by
   cases e2:Nm.parts L
   ·rfl
   ·have:=(mX.1 e2).2 k x hx
    rw[e]at this;cases this)
  have good:gH k x=true->∀ i y,i<k+1->L[i]?=some y->gH i y=true:=fun e i y hi hy=>by
   rcases Nat.lt_or_eq_of_le (Nat.le_of_lt_succ hi)with h|h
   ·exact aX i y h hy
   ·subst h;rw[hx]at hy;cases hy;exact e
  have c1:=Zg x (mQ (by have:=hb x (List.mem_of_getElem? hx);omega));refine gO F215 ?_;refine aD (e := .str x) (aU hx) rfl ?_;refine gO F215 ?_;refine aj (c1) ?_;refine gO F215 ?_;cases mi:Nm.label x
  ·refine bq ?_;refine gO F215 ?_;refine ar (fun h6=>?_) (fun h6=>?_)
   ·have h6:=of_decide_eq_true h6;refine gO F215 ?_;refine bq ?_;refine gO F215 ?_;rw[bad (by simp[gH,mi];omega)]
   ·have h6:=of_decide_eq_false h6;refine gO F215 ?_;refine aD (e := .str x) (aU hx) rfl ?_;refine gO F215 ?_;by_cases h7:x=[42]
    ·refine aP (by simpa using h7) ?_;refine gO F215 ?_;refine aa.back (IH (k+1) ⟨by omega,good (by simp[gH,h7];omega)⟩ (by omega)) ?_;exact sZ
    ·refine aJ (by simpa using h7) ?_;refine gO F215 ?_;rw[bad (by simp[gH,mi,h7])]
  ·refine aV ?_;refine gO F215 ?_;refine aV ?_;refine gO F215 ?_;refine aa.back (IH (k+1) ⟨by omega,good (by simp[gH,mi])⟩ (by omega)) ?_;exact sZ
 ·have aL:k=L.length:=by simp at h5;omega
  subst aL;clear IH;refine gO F215 ?_;refine aj (c2) ?_;refine gO F215 ?_;have mu:=fun i x (hx:L[i]?=some x)=>aX i x (List.getElem?_eq_some_iff.1 hx).1 hx;refine ar (fun h6=>?_) (fun h6=>?_)
  ·have h6:=of_decide_eq_true h6
   rw[no (by
    cases e:Nm.parts L
    ·rfl
    ·have:=(mX.1 e).1;simp at h6
     omega)]
   refine gO F215 ?_;refine bq ?_;refine gO F215 ?_
   with_reducible rfl
  ·have h6:=of_decide_eq_false h6;have hp:Nm.parts L=true:=mX.2 ⟨by simp at h6;omega,mu⟩;unfold jO;rw[hp,Bool.true_and];refine gO F215 ?_;refine ar (fun h7=>?_) (fun h7=>?_)
   ·have h7:=of_decide_eq_true h7;refine gO F215 ?_;rw[decide_eq_false (by omega)];rfl
   ·have h7:=of_decide_eq_false h7;refine gO F215 ?_;rw[decide_eq_true (by omega)];rfl
theorem Zi(c:Text)(hc:Nm.valid c=true):az E 163 [.str c] (· = match jO ([42]::Nm.labels c)with|some t => .aK [.str t,.bool true]|none => .aK [.str [],.bool false]):=by
 have c1:=Ag c (by have:=dF hc;omega);have hl:=AT hc
 have hj:=Zh ([42]::Nm.labels c) (by simp;omega) (fun t ht=>by
  rcases List.mem_cons.1 ht with rfl|h
  ·simp
  ·exact hl.2 t h)
 refine az.run ag (fn:=Tryz.f163) Tryz.func163 (body:=Tryz.f163.body.getD .skip) rfl (by decide) 7 ?_;(conv=>whnf);refine aa.kQ ag rfl ?_;refine gO Tryz.func163 ?_;refine aj (c1) ?_;refine gO Tryz.func163 ?_;refine bB ⟨by simp;omega,by simp[DV.cells]⟩ ?_;(conv=>whnf);refine aa.freeze 0 ?_;(conv=>whnf);refine gO Tryz.func163 ?_;cases hJ:jO ([42]::Nm.labels c)with
 |none =>
  rw[hJ]at hj;refine aj (hj) ?_;refine gO Tryz.func163 ?_;rfl
 |some t =>
  rw[hJ]at hj;refine aj (hj) ?_;refine gO Tryz.func163 ?_;rfl
theorem Zj(z:aQ)(q:aG):(fY z q).kind≠0/\(fY z q).kind≠7:=by
 unfold fY;repeat' split
 all_goals simp
theorem PM{z:aQ}{q:aG}(h:(mr z q).kind=0\/(mr z q).kind=7):(mr z q).ab=[]:=by
 have hk:=Zj z q
 revert h
 unfold mr bK;repeat' split
 all_goals first|(intro h;rcases h with h|h<;>first|exact absurd h hk.1|exact absurd h hk.2)|(intro h;rfl)|(intro h;simp at h)
theorem PN{a:iI}(h:a.kind=0\/a.kind=7->a.ab=[]):norm (Dz a)=a.enc:=by
 unfold Dz;by_cases e:a.kind=0\/a.kind=7
 ·rw[if_pos e];simp[norm,rq,iI.enc,h e]
 ·rw[if_neg e];rfl
theorem PO(z:aQ)(q:aG)(hf:z.Fits)(hn:q.name.length<=maxLen):az E 25 [z.enc,q.enc] (· = .aK [(mr z q).enc,.int .i64 (kX z q)]):=by
 refine az.norm ?_;refine(Za z q hf hn).mono fun r h=>?_;subst h;have:=PN (PM (z:=z) (q:=q));simp only[norm,rq,this]
def lR(z:aQ)(q:aG)(L:List Signed):List Signed:=match z.ab[(aq z.ab q).toNat]? with
 |some s=>if 0<=aq z.ab q/\L.any (cE q)=false then L++[s]else L
 |none=>L
def mz(z:aQ)(q:aG)(L:List Signed):Nat:=if 0<=aq z.ab q/\L.any (cE q)=false then 1 else 0
theorem DB(z:aQ)(q:aG)(hf:z.gV)(h:¬ 0<=aq z.ab q):aB E 160 [] [.d .aW,.d z.enc,.d (.str q.name),.d (.int .i64 q.type)] (fun a b=>a=.own 0 0/\b=[.arr 0 (57,5) [],.cells [.d (.str z.ad),.d (vw z.ab)]]):=by
 have c1:=vB z q hf.ab;refine aB.run ag (fn:=Tryz.f160) Tryz.func160 (body:=Tryz.f160.body.getD .skip) rfl (by decide) 2 rfl ?_;(conv=>whnf);refine aa.l9 0 (57,5) (by decide) rfl ?_;refine gO F160 ?_;refine aj (c1) ?_;refine gO F160 ?_;refine aJ (decide_eq_true (by omega)) ?_;refine gO F160 ?_;exact⟨rfl,rfl⟩
theorem PQ(z:aQ)(q:aG)(hf:z.gV){s:Signed}(h:0<=aq z.ab q)(hs:z.ab[(aq z.ab q).toNat]?=some s):aB E 160 [] [.d .aW,.d z.enc,.d (.str q.name),.d (.int .i64 q.type)] (fun a b=>a=.own 0 1/\b=[.arr 1 (57,5) [s.enc],.cells [.d (.str z.ad),.d (vw z.ab)]]):=by
 have c1:=vB z q hf.ab;refine aB.run ag (fn:=Tryz.f160) Tryz.func160 (body:=Tryz.f160.body.getD .skip) rfl (by decide) 2 rfl ?_;(conv=>whnf);refine aa.l9 0 (57,5) (by decide) rfl ?_;refine gO F160 ?_;refine aj (c1) ?_;refine gO F160 ?_;refine aP (decide_eq_false (by omega)) ?_;refine gO F160 ?_;refine aa.uZ ?_;refine aa.run ag F160 2000 ?_;(conv=>whnf);refine aP (by decide) ?_;refine gO F160 ?_;refine aD (e:=s.enc) ⟨by omega,by rw[List.getElem?_map,hs];rfl⟩ rfl ?_;refine gO F160 ?_;refine bB ⟨by simp,by simp[DV.cells]⟩ ?_;refine gO F160 ?_;exact⟨rfl,rfl⟩
theorem Zk(z:aQ)(q:aG)(L:List Signed)(hf:z.gV)(hl:L.length<=1000000):aB E 160 [.arr 0 (57,5) (L.map Signed.enc)] [.own 0 0,.d z.enc,.d (.str q.name),.d (.int .i64 q.type)] (fun a b=>a=.own 0 (mz z q L)/\b=[.arr (mz z q L) (57,5) ((lR z q L).map Signed.enc),.cells [.d (.str z.ad),.d (vw z.ab)]]):=by
 have c1:=vB z q hf.ab;refine aB.run ag (fn:=Tryz.f160) Tryz.func160 (body:=Tryz.f160.body.getD .skip) rfl (by decide) 2000 rfl ?_;(conv=>whnf);refine aj (c1) ?_;refine gO F160 ?_;by_cases h:aq z.ab q<0
 ·refine aJ (decide_eq_true h) ?_;refine gO F160 ?_;have e:lR z q L=L:=by
   unfold lR;split
   ·rw[if_neg (by omega)]
   ·rfl
  rw[e,mz,if_neg (by omega)];exact⟨rfl,rfl⟩
 refine aP (decide_eq_false h) ?_;obtain⟨s,hs,hq⟩:=jN (l:=z.ab) (q:=q) (by omega);have e:lR z q L=if L.any (cE q)=false then L++[s]else L:=by
  unfold lR;rw[hs];have h0:0<=aq z.ab q:=by omega
  simp only[h0,true_and]
 rw[e];refine gO F160 ?_;refine aa.loop (κ:=Nat) ([8,10]++rg 19 25) (fun k=>[(10,.d (.int .i64 k))]) (fun _=>[]) (fun k=>k<=L.length/\L.any (cE q)=(L.drop k).any (cE q)) (fun k=>L.length-k) 0 ⟨Nat.zero_le _,rfl⟩ ?_ ?_
 ·exact sZ
 rintro k ⟨hk,he⟩ IH;refine aa.head ag F160 2000 ?_;(conv=>whnf);refine ar (fun h5=>?_) (fun h5=>?_)
 ·have ai:k<L.length:=by simpa using h5
  obtain⟨x,hx⟩:=bd ai;have hd:=AY hx;rw[hd,List.any_cons]at he;refine gO F160 ?_;refine bB ⟨by omega,by simp;omega⟩ ?_;refine gO F160 ?_;refine aD (e:=x.enc) (aU hx) rfl ?_;refine gO F160 ?_;by_cases h6:x.set.name=q.name
  ·refine aJ (by simpa using h6) ?_;refine gO F160 ?_;refine bB ⟨by omega,by simp;omega⟩ ?_;refine gO F160 ?_;refine aD (e:=x.enc) (aU hx) rfl ?_;refine gO F160 ?_;by_cases h7:x.set.type=q.type
   ·refine aJ (by simpa using h7) ?_;refine gO F160 ?_;have ha:cE q x=true:=by simp[cE,h6,h7]
    rw[mz,he,ha,Bool.true_or,if_neg (fun h=>by simp at h),if_neg (by decide)];exact⟨rfl,rfl⟩
   ·refine aP (by simpa using h7) ?_;refine gO F160 ?_;have ha:cE q x=false:=by simp[cE,h7]
    refine aa.back (IH (k+1) ⟨by omega,by rw[he,ha,Bool.false_or]⟩ (by omega)) ?_;exact sZ
  ·refine aP (by simpa using h6) ?_;refine gO F160 ?_;refine aV ?_;refine gO F160 ?_;have ha:cE q x=false:=by simp[cE,h6]
   refine aa.back (IH (k+1) ⟨by omega,by rw[he,ha,Bool.false_or]⟩ (by omega)) ?_;exact sZ
 ·have aL:L.length<=k:=by simpa using h5
  rw[List.drop_eq_nil_of_le aL]at he;rw[mz,he,List.any_nil,if_pos rfl,if_pos ⟨by omega,rfl⟩];refine gO F160 ?_;refine aD (e:=s.enc) ⟨by omega,by rw[List.getElem?_map,hs];rfl⟩ rfl ?_;refine gO F160 ?_;refine bB ⟨by simp;omega,by simp[DV.cells]⟩ ?_;refine gO F160 ?_;exact⟨rfl,by simp⟩
theorem IE(z:aQ)(q:aG)(L:List Signed)(hf:z.gV)(hl:L.length<=1000000):aB E 160 [.arr 0 (57,5) (L.map Signed.enc)] [.own 0 0,.d z.enc,.d (.str q.name),.d (.int .i64 q.type)] (fun a b=>a=.own 0 (mz z q L)/\b=[.arr (mz z q L) (57,5) ((lR z q L).map Signed.enc)]) :=
 aB.jP ((Zk z q L hf hl).mono fun a b ⟨h1,h2⟩=>⟨h1,by rw[h2];rfl⟩) rfl
def qu(z:aQ)(n:Text)(L:List Signed):List Signed:=match z.ab[(cJ z.ab n).toNat]? with
 |some s=>if 0<=cJ z.ab n then lR z ⟨s.set.name,8⟩ L else L
 |none=>L
def qv(z:aQ)(n:Text)(L:List Signed):Nat:=match z.ab[(cJ z.ab n).toNat]? with
 |some s=>if 0<=cJ z.ab n then mz z ⟨s.set.name,8⟩ L else 0
 |none=>0
theorem Zl(z:aQ)(n:Text)(L:List Signed)(V:eH z)(hf:z.gV)(hn:Nm.valid n=true)(hl:L.length<=1000000):aB E 161 [.arr 0 (57,5) (L.map Signed.enc)] [.own 0 0,.d z.enc,.d (.str n)] (fun a b=>a=.own 0 (qv z n L)/\b=[.arr (qv z n L) (57,5) ((qu z n L).map Signed.enc)]):=by
 have Zm:=X' V.sorted (n:=n);have hlen:=V.len;have c1:=fun q=>IE z q L hf hl;refine aB.jP (H2:=[.arr (qv z n L) (57,5) ((qu z n L).map Signed.enc)]) ?_ rfl;refine aB.run ag (fn:=Tryz.f161) Tryz.func161 (body:=Tryz.f161.body.getD .skip) rfl (by decide) 2000 rfl ?_;(conv=>whnf);refine aa.loop (κ:=Nat) ([6,7,8]++rg 13 25) (fun k=>[(7,.d (.int .i64 ((k:Int)-1)))]) (fun _=>[]) (fun k=>k<=z.ab.length/\fG (qk z.ab n) k=cJ z.ab n) (fun k=>k) z.ab.length ⟨Nat.le_refl _,Zm⟩ ?_ ?_
 ·(conv=>whnf);repeat (first|exact trivial|(refine sI ?_;conv=>whnf))
  refine And.intro (by rw[wrap64 (by simp;omega) (by simp;omega)];simp) ?_;exact sZ
 rintro k ⟨hk,he⟩ IH;refine aa.head ag F161 2000 ?_;(conv=>whnf);cases k with
 |zero =>
  refine aP (by decide) ?_;refine gO F161 ?_;have hc:qu z n L=L:=by
   rw[fG]at he;unfold qu;split
   ·rw[if_neg (by omega)]
   ·rfl
  have hg:qv z n L=0:=by
   rw[fG]at he;unfold qv;split
   ·rw[if_neg (by omega)]
   ·rfl
  rw[hc,hg];exact⟨rfl,rfl⟩
 |succ k =>
  obtain⟨x,hx⟩:=bd (l:=z.ab) (k:=k) (by omega);have ek:((k+1:Nat):Int)-1=(k:Int):=by omega
  rw[ek];refine aJ (by simp) ?_;refine gO F161 ?_;refine aD (e:=x.enc) (aU hx) rfl ?_;refine gO F161 ?_;have c2:=Ah x.set.name n (by have:=dF (V.names x (List.mem_of_getElem? hx));omega) (by have:=dF hn;omega);have skip:qk z.ab n k=false->fG (qk z.ab n) k=cJ z.ab n:=fun h=>by
   rw[fG,h]at he
   simpa using he
  by_cases h8:x.set.type=8
  ·refine aJ (by simpa using h8) ?_;refine gO F161 ?_;refine aj (c2) ?_;refine gO F161 ?_;by_cases ho:bC x.set.name n<=0
   ·refine aJ (decide_eq_true ho) ?_;have hb:qk z.ab n k=true:=by simp[qk,hx,h8,ho]
    have hc:cJ z.ab n=k:=by rw[<- he,fG,hb];simp
    have lv:qu z n L=lR z ⟨x.set.name,8⟩ L:=by
     unfold qu;rw[hc,Int.toNat_natCast,hx];simp
    have C':qv z n L=mz z ⟨x.set.name,8⟩ L:=by
     unfold qv;rw[hc,Int.toNat_natCast,hx];simp
    have c1:=c1 ⟨x.set.name,8⟩;simp only at c1;rw[lv,C'];refine gO F161 ?_
    with_reducible refine bG (c1) ?_
    refine gO F161 ?_;rw[Nat.zero_add];exact⟨rfl,rfl⟩
   ·refine aP (decide_eq_false ho) ?_;refine gO F161 ?_;refine aa.back (IH k ⟨by omega,skip (by simp[qk,hx,ho])⟩ (by omega)) ?_;exact sZ
  ·refine aP (by simpa using h8) ?_;refine gO F161 ?_;refine aV ?_;refine gO F161 ?_;refine aa.back (IH k ⟨by omega,skip (by simp[qk,hx,h8])⟩ (by omega)) ?_;exact sZ
end Go.Proofs.YtcmnpelmmekdkaaGreatDoor.P
end
section
namespace Go.Proofs.YtcmnpelmmekdkaaGreatDoor.P
open Go Go.aA
theorem Zn{z:aQ}{q:aG}{L:List Signed}(h:¬ 0<=aq z.ab q):lR z q L=L:=by
 unfold lR;split
 ·rw[if_neg fun e=>h e.1]
 ·rfl
theorem Zo{z:aQ}{q:aG}{L:List Signed}{s:Signed}(h:0<=aq z.ab q)(hs:z.ab[(aq z.ab q).toNat]?=some s):lR z q L=if L.any (cE q)=false then L++[s]else L:=by
 unfold lR;rw[hs];simp only[h,true_and]
theorem IF{l:List Signed}{q:aG}{ps:List Int}(hs:fj l)(hp:lO l ps)(h0:0<=aq l q):(bN l ps).any (cE q)=decide (aq l q∈ps):=by
 rw[Bool.eq_iff_iff,decide_eq_true_eq,List.any_eq_true];simp only[bN,List.mem_filterMap];constructor
 ·rintro⟨s,⟨p,hm,hx⟩,ha⟩;have e:=xZ hs hx;rw[<- qj ha]at e;have:=(hp p hm).1;rw[e,Int.toNat_of_nonneg this];exact hm
 ·intro hm;obtain⟨s,hx,ha⟩:=jN h0;exact⟨s,⟨_,hm,hx⟩,ha⟩
theorem IG{z:aQ}{q:aG}{ps:List Int}(hs:fj z.ab)(hp:lO z.ab ps):lR z q (bN z.ab ps)=bN z.ab (du ps (aq z.ab q)):=by
 by_cases h:0<=aq z.ab q
 ·obtain⟨s,hx,ha⟩:=jN h;rw[Zo h hx,IF hs hp h,O0 h hx];by_cases hm:aq z.ab q∈ps
  ·simp[hm]
  ·simp[hm]
 ·rw[Zn h,du,if_pos (.inl (by omega))]
theorem Zp{z:aQ}{n:Text}{ps:List Int}(hs:fj z.ab)(hp:lO z.ab ps):qu z n (bN z.ab ps)=bN z.ab (du ps (cJ z.ab n)):=by
 by_cases h:0<=cJ z.ab n
 ·obtain⟨s,hx,ht⟩:=Ya h;have e:=xZ hs hx;rw[ht]at e;unfold qu;rw[hx];simp only[h,if_true];rw[IG hs hp,e,Int.toNat_of_nonneg h]
 ·have e:qu z n (bN z.ab ps)=bN z.ab ps:=by
   unfold qu;split
   ·rw[if_neg h]
   ·rfl
  rw[e,du,if_pos (.inl (by omega))]
end Go.Proofs.YtcmnpelmmekdkaaGreatDoor.P
end
section
namespace Go
def Result.world{α:Type}:Result α->World
 | .ok _ w=>w
 | .halt _ w=>w
theorem abe{p:Program}{w w':World}{a k:Addr}{u:TypeId}{v:Value}{at_:Bool}{l:List Addr}(h:w.viewStore p a u k v at_=.ok (w',l)):w'.drawn=w.drawn:=by
 unfold World.viewStore at h;simp only[bind,Except.bind,pure,Except.pure]at h;repeat' split at h
 all_goals first|(cases h;rfl)|(simp at h;done)|skip
theorem abf{p:Program}{w w':World}{a:Addr}{v:Value}{at_:Bool}{l:List Addr}(h:w.farStore p a v at_=.ok (w',l)):w'.drawn=w.drawn:=by
 unfold World.farStore at h;split at h
 ·split at h
  ·rename_i hv;cases h;exact abe hv
  ·cases h
 ·cases h
theorem abg{α:Type}:∀ (x:Ask α) (w:World),w.drawn<=(w.ask x).2.drawn:=by
 intro x
 induction x with
 |done a=>intro w;exact Nat.le_refl _
 |ask adL range k ih =>
  intro w;unfold World.ask;dsimp only;split
  ·exact ih _ _
  ·exact Nat.le_trans (Nat.le_succ _) (ih _ { w with drawn:=w.drawn+1 })
theorem Rg(w:World)(c:Sys):w.drawn<=(w.sys c).2.drawn:=by
 unfold World.sys;have:=abg (Kernel.perform c w.os) w;split
 ·exact Nat.le_refl _
 ·rename_i h;rw[h]at this;exact this
theorem abh(w:World)(a:Addr)(n:Nat):(w.freeze a n).drawn=w.drawn:=by unfold World.freeze;split<;>rfl
theorem Sem.Ec{α:Type}(p:Program)(x:Sem α):∀ (w:World),w.drawn<=(x.run p w).world.drawn:=by
 induction x with
 |pure a=>intro w;exact Nat.le_refl _
 |halt h=>intro w;exact Nat.le_refl _
 |load m a k ih =>
  intro w;unfold Sem.run;repeat' split
  all_goals first|exact Nat.le_refl _|exact ih _ w
 |store m a v k ih =>
  intro w;cases v;all_goals first
   |exact Nat.le_refl _
   |(unfold Sem.run
     repeat' split
     all_goals first|exact Nat.le_refl _|exact ih (w.setCell a _)|(rename_i h;exact Nat.le_trans (Nat.le_of_eq (abf h).symm) (ih _)))
 |new o k ih=>intro w;exact ih _ { w with heap:=w.heap.push o }
 |shape r k ih=>intro w;exact ih _ w
 |freeze a n k ih=>intro w;exact Nat.le_trans (Nat.le_of_eq (abh w a n).symm) (ih (w.freeze a n))
 |frozen a k ih=>intro w;exact ih _ w
 |getObj r k ih =>
  intro w;unfold Sem.run;repeat' split
  all_goals first|exact Nat.le_refl _|exact ih _ w
 |setObj r o k ih =>
  intro w;unfold Sem.run;repeat' split
  all_goals first|exact Nat.le_refl _|exact ih { w with heap:=w.heap.setIfInBounds r o }
 |choose q k ih =>
  intro w;unfold Sem.run;split
  ·exact ih _ w
  ·exact Nat.le_trans (Nat.le_succ _) (ih _ { w with drawn:=w.drawn+1 })
 |sys c k ih=>intro w;exact Nat.le_trans (Rg w c) (ih _ _)
 |program k ih=>intro w;exact ih p w
 |mark m k ih=>intro w;exact ih w
theorem Sem.abi{α:Type}(p:Program)(x:Sem α):∀ (w:World) (es:Array Event),(x.runT p w es).1=x.run p w:=by
 induction x with
 |pure a=>intro w es;rfl
 |halt h=>intro w es;rfl
 |load m a k ih =>
  intro w es;unfold Sem.runT Sem.run;repeat' split
  all_goals first|rfl|exact ih _ _ _|simp_all
 |store m a v k ih =>
  intro w es;cases v;all_goals first
   |rfl
   |(unfold Sem.runT Sem.run
     repeat' split
     all_goals first|rfl|exact ih _ _|simp_all)
 |new o k ih=>intro w es;exact ih _ _ _
 |shape r k ih=>intro w es;exact ih _ _ _
 |freeze a n k ih=>intro w es;exact ih _ _
 |frozen a k ih=>intro w es;exact ih _ _ _
 |getObj r k ih =>
  intro w es;unfold Sem.runT Sem.run;repeat' split
  all_goals first|rfl|exact ih _ _ _|simp_all
 |setObj r o k ih =>
  intro w es;unfold Sem.runT Sem.run;repeat' split
  all_goals first|rfl|exact ih _ _|simp_all
 |choose q k ih =>
  intro w es;unfold Sem.runT Sem.run;split
  ·exact ih _ _ _
  ·exact ih _ _ _
 |sys c k ih=>intro w es;exact ih _ _ _
 |program k ih=>intro w es;exact ih _ _ _
 |mark m k ih=>intro w es;exact ih _ _
theorem Sem.Bs{α:Type}(p:Program)(x:Sem α)(w:World)(es:Array Event):w.drawn<=(x.runT p w es).1.world.drawn:=by
 rw[Sem.abi];exact x.Ec p w
def GStep.world:GStep->World
 | .go _ w _=>w
 | .comm _ _ _ _ w _=>w
 | .spawn _ _ w _=>w
 | .count _ w _=>w
 | .timer _ _ w _=>w
 | .alone _ _ w _=>w
 | .newcoro _ _ _ w _=>w
 | .coroswitch _ _ _ w _=>w
 | .collect _ w _=>w
 | .watch _ w _=>w
 | .ended _ w _=>w
theorem GStep.abj(es:Array Event)(s:GStep):(s.after es).world=s.world:=by cases s<;>rfl
def dc(d:Nat)(s:GStep):Prop:=d<=s.world.drawn
theorem abk{d:Nat}{c:Prop}[Decidable c]{a b:GStep}(h:dc d a)(k:dc d b):dc d (if c then a else b):=by split<;>assumption
theorem dc.after{d:Nat}{es:Array Event}{s:GStep}(h:dc d s):dc d (s.after es):=by unfold dc;rw[GStep.abj];exact h
theorem iK{α:Type}{p:Program}{x:Sem α}{w w':World}{a:α}(h:x.run p w=.ok a w'):w.drawn<=w'.drawn:=by have:=x.Ec p w;rw[h]at this;exact this
theorem se{α:Type}{p:Program}{x:Sem α}{w w':World}{a:Halt}(h:x.run p w=.halt a w'):w.drawn<=w'.drawn:=by have:=x.Ec p w;rw[h]at this;exact this
theorem Ed{α:Type}{p:Program}{x:Sem α}{w w':World}{es eC:Array Event}{a:α}(h:x.runT p w es=(.ok a w',eC)):w.drawn<=w'.drawn:=by have:=x.Bs p w es;rw[h]at this;exact this
theorem Ee{α:Type}{p:Program}{x:Sem α}{w w':World}{es eC:Array Event}{a:Halt}(h:x.runT p w es=(.halt a w',eC)):w.drawn<=w'.drawn:=by have:=x.Bs p w es;rw[h]at this;exact this
theorem mC{α:Type}{p:Program}{x:Sem α}{w w':World}{es:Array Event}{a:α}(h:(x.runT p w es).1=.ok a w'):w.drawn<=w'.drawn:=by have:=x.Bs p w es;rw[h]at this;exact this
theorem nx{α:Type}{p:Program}{x:Sem α}{w w':World}{es:Array Event}{a:Halt}(h:(x.runT p w es).1=.halt a w'):w.drawn<=w'.drawn:=by have:=x.Bs p w es;rw[h]at this;exact this
theorem Rh{w w':World}{c:Sys}{r:SysRet}(h:w.sys c=(r,w')):w.drawn<=w'.drawn:=by have:=Rg w c;rw[h]at this;exact this
theorem abl(w:World)(fd:Nat)(t:ByteArray)(o:Outcome):dc w.drawn (endWith w fd t o):=by
 unfold endWith;dsimp only;repeat' split
 all_goals
  first
   |exact Nat.le_refl _
   |exact Rh (by assumption)
   |exact iK (by assumption)
   |exact se (by assumption)
   |exact Ed (by assumption)
   |exact Ee (by assumption)
theorem Bt(fr:Frame)(m:String)(w:World):dc w.drawn (endThrow fr m w):=Nat.le_refl _
theorem yq(p:Program)(fr:Frame)(v:Value)(w:World):dc w.drawn (endPrinting p fr v w):=by
 unfold endPrinting;dsimp only;repeat' split
 all_goals
  first
   |exact Nat.le_refl _
   |exact Rh (by assumption)
   |exact iK (by assumption)
   |exact se (by assumption)
   |exact Ed (by assumption)
   |exact Ee (by assumption)
theorem dc.up{d e:Nat}{s:GStep}(h:d<=e)(k:dc e s):dc d s:=Nat.le_trans h k
theorem Jo(p:Program)(fr:Frame)(callers:List Frame)(dying:Option Dying)(m:String)(w:World):dc w.drawn (endFatal p fr callers dying m w):=by
 unfold endFatal;dsimp only;split
 ·exact iK (by assumption)
 ·exact se (by assumption)
 ·exact se (by assumption)
theorem abm(p:Program)(fr:Frame)(d:Dying)(f:Fatal)(w:World):dc w.drawn (writeOn p fr d f w):=by
 unfold writeOn;dsimp only;split
 ·exact Nat.le_refl _
 ·split;all_goals first|exact Ed (by assumption)|exact Ee (by assumption)
theorem abn(p:Program)(fr:Frame)(d:Dying)(w:World):dc w.drawn (die p fr d w):=by
 unfold die;split
 ·exact abm ..
 ·split
  ·split
   ·exact Nat.le_refl _
   ·exact abl ..
  ·dsimp only;split
   ·exact Nat.le_refl _
   ·split
    ·exact iK (by assumption)
    ·exact se (by assumption)
   ·apply dc.after;split;all_goals first|exact Nat.le_refl _|exact mC (by assumption)|exact nx (by assumption)|exact dc.up (nx (by assumption)) (yq ..)
   ·exact Nat.le_refl _
theorem Ef(p:Program)(main:Bool)(fr:Frame)(callers:List Frame)(dying:Option Dying)(v:Value)(w:World):dc w.drawn (doReturn p main fr callers dying v w):=by
 unfold doReturn;dsimp only;repeat' split
 all_goals exact Nat.le_refl _
theorem abo(p:Program)(fr:Frame)(callers:List Frame)(dying:Option Dying)(d:Deferred)(w:World):dc w.drawn (callDeferred p fr callers dying d w):=by
 unfold callDeferred;dsimp only;refine abk (Nat.le_refl _) ?_
 ·apply dc.after;repeat' split
  all_goals
  first
   |exact Nat.le_refl _
   |exact mC (by assumption)
   |exact nx (by assumption)
   |exact dc.up (mC (by assumption)) (yq ..)
   |exact dc.up (nx (by assumption)) (yq ..)
   |exact dc.up (nx (by assumption)) (Jo ..)
   |exact dc.up (nx (by assumption)) (Bt ..)
   |exact dc.up (mC (by assumption)) (Bt ..)
   |exact dc.up (mC (by assumption)) (Ef ..)
theorem abp(p:Program)(main:Bool)(fr:Frame)(callers:List Frame)(dying:Option Dying)(w:World):dc w.drawn (unwind p main fr callers dying w):=by
 unfold unwind;dsimp only;split
 ·apply dc.after;split
  ·exact mC (by assumption)
  ·exact nx (by assumption)
 ·exact abo ..
 ·split
  ·exact Nat.le_refl _
  ·repeat' split
   all_goals first|exact Nat.le_refl _|exact iK (by assumption)|exact se (by assumption)|exact yq ..
  ·split
   ·exact Ef ..
   ·apply dc.after;split;all_goals
    first
     |exact Nat.le_refl _
     |exact mC (by assumption)
     |exact nx (by assumption)
     |exact dc.up (mC (by assumption)) (yq ..)
     |exact dc.up (nx (by assumption)) (yq ..)
     |exact dc.up (nx (by assumption)) (Jo ..)
     |exact dc.up (nx (by assumption)) (Bt ..)
     |exact dc.up (mC (by assumption)) (Bt ..)
     |exact dc.up (mC (by assumption)) (Ef ..)
theorem abq(p:Program)(fr:Frame)(callers:List Frame)(dying:Option Dying)(g:Nat)(w:World):dc w.drawn (early p fr callers dying g w):=by
 unfold early;dsimp only;repeat' split
 all_goals first|exact Nat.le_refl _|exact(iK ‹Sem.run p _ w=.ok _ _› :)|exact iK (by assumption)|exact se (by assumption)|exact Ed (by assumption)|exact Ee (by assumption)
theorem Eg(p:Program)(listen:Bool)(fr:Frame)(callers:List Frame)(dying:Option Dying)(s:Sem Next)(w:World):dc w.drawn (stepG.apply p listen fr callers dying s w):=by
 unfold stepG.apply;dsimp only;apply dc.after;obtain⟨r,hr,hw⟩:∃ r,(if listen=true then s.runT p w #[]else(s.run p w,#[])).1=r/\w.drawn<=r.world.drawn:=⟨_,rfl,by split;exact s.Bs p w #[];exact s.Ec p w⟩;rw[hr];clear hr;repeat' split
 all_goals first|exact hw|exact dc.up hw (Bt ..)|exact dc.up hw (Jo ..)|exact dc.up hw (abq ..)
theorem Ri(p:Program)(listen:Bool)(fr:Frame)(callers:List Frame)(dying:Option Dying)(w:World):dc w.drawn (stepG.oper p listen fr callers dying w):=by
 unfold stepG.oper;repeat' split
 all_goals first|exact Nat.le_refl _|exact Eg ..
theorem Rj{α:Type}{d:Nat}{o:Option α}{a:GStep}{f:α->GStep}(h:dc d a)(k:∀ x,dc d (f x)):dc d (o.elim a f):=by cases o;exact h;exact k _
theorem abr(p:Program)(main listen:Bool)(fr:Frame)(callers:List Frame)(dying:Option Dying)(w:World):dc w.drawn (stepG.exec p main listen fr callers dying w):=by
 unfold stepG.exec;dsimp only;split;all_goals first
  |exact Nat.le_refl _
  |exact Eg ..
  |(split<;>exact Nat.le_refl _)
  |skip
 all_goals (try refine Rj ?_ fun _=>Nat.le_refl _)
 all_goals first
  |exact Rj (Nat.le_refl _) fun _=>Eg ..
  |(split
    all_goals first
    |exact Nat.le_refl _
    |(split<;>exact Nat.le_refl _)
    |(apply dc.after
      split
      all_goals first|exact nx (by assumption)|exact(mC (by assumption) :)|exact dc.up (mC (by assumption)) (Ef ..)))
  |(apply dc.after
    split
    all_goals first|exact nx (by assumption)|exact mC (by assumption)|exact dc.up (mC (by assumption)) (Eg ..))
  |(split
    all_goals first
    |exact Nat.le_refl _
    |exact Ri ..
    |(split<;>first|exact iK (by assumption)|exact se (by assumption)|exact Ri .. |exact Nat.le_refl _))
theorem abt(p:Program)(main:Bool)(g:Goroutine)(w:World)(listen:Bool):dc w.drawn (stepG p main g w listen):=by
 unfold stepG;dsimp only;split
 ·exact abn ..
 ·exact abr ..
 ·exact abp ..
def la(d:Nat):Stepped->Prop
 | .next m=>d<=m.world.drawn
 | .ended .. => True
theorem la.up{d e:Nat}{s:Stepped}(h:d<=e)(k:la e s):la d s:=by cases s;exact Nat.le_trans h k;trivial
theorem abu{rest:Rest}{cases:Array CommCase}{w w':World}(h:waitingAt rest cases w=some w'):w.drawn<=w'.drawn:=by
 unfold waitingAt at h;split at h
 ·split at h
  ·cases h;exact Nat.le_refl _
  ·cases h
 ·cases h;exact Nat.le_refl _
theorem Jp{d:Nat}{c:Prop}[Decidable c]{a b:Stepped × Array MemOp}(h:la d a.1)(k:la d b.1):la d (if c then a else b).1:=by split<;>assumption
theorem abv(p:Program)(rest:Rest)(gs:Array Goroutine)(i:Nat)(g:Goroutine)(cases:Array CommCase)(abw:Bool)(shape:CommShape)(w:World):la w.drawn (communicate p rest gs i g cases abw shape w).1:=by
 unfold communicate;dsimp only;refine Jp trivial (Jp (Jp ?_ (Nat.le_refl _)) ?_)
 ·split
  ·exact abu (by assumption)
  ·trivial
 ·split
  ·trivial
  ·repeat' split
   all_goals first
    |trivial
    |exact(iK ‹Sem.run p _ w=.ok _ _› :)
    |exact Nat.le_trans (iK ‹Sem.run p _ w=.ok _ _› :) (iK (by assumption) :)
    |(rename_i h _ _ _ k;exact Nat.le_trans (iK h :) (se k :))
theorem abx(p:Program)(m:Machine)(k:Nat):la m.world.drawn (serve p m k):=by
 unfold serve;split
 ·trivial
 ·exact Nat.le_refl _
 ·dsimp only;split
  ·trivial
  ·exact Nat.le_refl _
theorem aby(w:World)(c:Nat):(drain w c).2.drawn=w.drawn:=by unfold drain;split<;>rfl
theorem Rk(m:Machine)(k:Nat)(t:Timer)(a b:Nat):(retime m k t a b).2.world.drawn=m.world.drawn:=by
 unfold retime;split;rename_i h;split at h
 ·rename_i c _;have:=aby m.world c;rw[h]at this;exact this
 ·cases h;rfl
theorem Rl{m m':Machine}{a:Addr}(h:timerOp.opened m a=some m'):m'.world.drawn=m.world.drawn:=by
 unfold timerOp.opened at h;split at h
 ·split at h
  ·cases h;rfl
  ·cases h
 ·cases h;rfl
theorem Rm{m m':Machine}{a:Addr}{f:Nat->Timer->Value × Machine}{v:Value}(h:timerOp.named m a f=.ok (v,m'))(k:∀ x y,(f x y).2.world.drawn=m.world.drawn):m'.world.drawn=m.world.drawn:=by
 unfold timerOp.named at h;split at h
 ·have e:=Except.ok.inj h;have:=congrArg (fun x:Value × Machine=>x.2.world.drawn) e;exact this.symm.trans (k _ _)
 ·cases h
theorem abz{m m':Machine}{o:TimerOp}{v:Value}(h:timerOp m o=.ok (v,m')):m'.world.drawn=m.world.drawn:=by
 unfold timerOp at h;split at h
 ·split at h
  ·cases h;rfl
  ·split at h
   ·split at h
    ·cases h
    ·cases h;rfl
   ·cases h
 ·exact Rm h fun _ _=>Rk ..
 ·split at h
  ·rename_i e;exact(Rm h fun _ _=>(Rk ..).trans (by first|rfl|exact Rl e|exact(Rl e).symm))
  ·cases h
 ·cases h;rfl
theorem Jq(p:Program)(gs:Array Goroutine)(rest:Rest)(w:World):la w.drawn (look p gs rest w):=by
 unfold look;split
 ·dsimp only;split
  ·trivial
  ·split
   ·trivial
   ·split
    ·exact(iK ‹Sem.run p _ w=.ok _ _› :)
    ·trivial
    ·trivial
 ·trivial
theorem Rn{fr:Frame}{m:String}{w w':World}{g:Goroutine}{es:Array Event}(h:endThrow fr m w=.go g w' es):w'.drawn=w.drawn:=by
 unfold endThrow dieOf at h;cases h;rfl
theorem abA(p:Program)(m:Machine)(i:Nat)(l:Bool):la m.world.drawn (runT p m i l).1:=by
 unfold runT;dsimp only;generalize m.gs.swapAt! i _=sw;have hs:=abt p (i==0) sw.1 m.world l;split;all_goals (rename_i heq;rw[heq]at hs)
 ·trivial
 ·exact la.up hs (abv ..)
 ·exact hs
 ·exact hs
 ·dsimp only;split
  ·trivial
  ·exact hs
 ·exact hs
 ·exact la.up hs (Jq ..)
 ·exact hs
 ·exact hs
 ·dsimp only;split
  ·exact hs
  ·split
   ·exact Nat.le_trans hs (Nat.le_of_eq (Rn (by assumption)).symm)
   ·trivial
  ·trivial
 ·dsimp only;split
  ·rename_i h;exact Nat.le_trans hs (Nat.le_of_eq (abz h).symm)
  ·split
   ·exact Nat.le_trans hs (Nat.le_of_eq (Rn (by assumption)).symm)
   ·trivial
  ·trivial
  ·trivial
def lV(d:Nat):Move->Prop
 | .goroutine m _=>d<=m.world.drawn
 | .machine s _=>la d s
theorem lV.up{d e:Nat}{s:Move}(h:d<=e)(k:lV e s):lV d s:=by cases s;exact Nat.le_trans h k;exact la.up h k
theorem Bu{d:Nat}{c:Prop}[Decidable c]{a b:Move}(h:lV d a)(k:lV d b):lV d (if c then a else b):=by split<;>assumption
theorem Jr(p : Program)(m : Machine)(rs : List Nat) : lV m.world.drawn (match (choose (.sched rs.length)).run p m.world with
      | .halt _ w => .machine (.ended (.stuck "sched" "") w)
      | .ok k world =>
        if rs.length <= 1 then .goroutine { m with world } (rs.getD k 0)else
        match (choose (.extern "sched.slice" 65536)).run p world with
        | .halt _ w => .machine (.ended (.stuck "sched.slice" "") w)
        | .ok n world => .goroutine { m with world, rest := { m.rest with slice := if n=0 then none else some (rs.getD k 0, n) } } (rs.getD k 0)) := by
 split
 ·trivial
 ·have e:=iK (by assumption);refine Bu e ?_;split
  ·trivial
  ·exact Nat.le_trans e (iK (by assumption))
theorem Js(p:Program)(m:Machine):lV m.world.drawn (askOn p m):=by
 unfold askOn;dsimp only;split
 ·trivial
 ·have e:=iK (by assumption);refine Bu (la.up e (abx ..)) ?_;split
  ·split
   ·exact e
   ·refine Bu e ?_;split<;>trivial
  ·split
   ·exact lV.up e (Jr p { m with world:=_ } _)
   ·split
    ·trivial
    ·exact lV.up (Nat.le_trans e (iK (by assumption))) (Jr p { m with world:=_ } _)
    ·rename_i h;exact Nat.le_trans e (iK h :)
    ·rename_i h;exact lV.up (Nat.le_trans e (iK h :)) (Jr p (Machine.advanceTo { m with world:=_ } _) _)
theorem Ro(p:Program)(m:Machine):lV m.world.drawn (ask p m):=by
 unfold ask;split
 ·split
  ·trivial
  ·have e:=iK (by assumption);split
   ·rename_i w1 _ _ _ h;have l:=Jq p m.gs m.rest w1;rw[h]at l;exact lV.up (Nat.le_trans e l) (Js ..)
   ·exact la.up e (Jq ..)
  ·exact lV.up (iK (by assumption)) (Js p { m with world:=_ })
 ·exact Js ..
theorem abB(p:Program)(m:Machine):lV m.world.drawn (move p m):=by
 unfold move;split
 ·exact Bu (Nat.le_refl _) trivial
 ·split
  ·exact Bu (Nat.le_refl _) (Ro p { m with rest:=_ })
  ·exact Ro ..
theorem abC{p:Program}{m m':Machine}(h:step p m=.next m'):m.world.drawn<=m'.world.drawn:=by
 have k:=abB p m;unfold step stepT at h;split at h
 ·rename_i m1 i e;rw[e]at k;have r:=abA p m1 i true;rw[h]at r;exact Nat.le_trans k r
 ·rename_i e;rw[e]at k;dsimp only at h;rw[h]at k;exact k
theorem Rp{p:Program}:∀ {n:Nat} {m m':Machine},runN p n m=.next m'->m.world.drawn<=m'.world.drawn
 |0,m,m',h=>by cases h;exact Nat.le_refl _
 |n+1,m,m',h=>by
  unfold runN at h;split at h
  ·exact Nat.le_trans (abC (by assumption)) (Rp h)
  ·rename_i k;exact absurd h (k _)
theorem Steps.drawn{p:Program}{m m':Machine}(h:Steps p m m'):m.world.drawn<=m'.world.drawn:=h.elim fun _=>Rp
theorem Calls.drawn{P:Program}{f:FuncId}{args:Array Value}{w:World}{R:Ending->World->Prop}(h:Calls P f args w R)(hr:∀ e w',R e w'->∃ v,e=.returned v):Calls P f args w fun e w'=>R e w'/\w.drawn<=w'.drawn:=by
 intro cs;obtain⟨e,w',fr,r,c,k⟩:=h cs;obtain⟨v,rfl⟩:=hr e w' r;exact⟨_,w',fr,⟨r,Steps.drawn (m:=lone _ cs w) (m':=lone fr cs w') c⟩,c,k⟩
end Go
end
section
namespace Go.Proofs.YtcmnpelmmekdkaaGreatDoor.P
open Go Go.aA Go.Sort Go.RowKit
theorem grown_of{w w':World}(hx:Ext w w')(hd:w.drawn<=w'.drawn):∃ q wb,w'=grow (w.drewN q) wb:=by
 refine⟨w'.drawn-w.drawn,w'.heap.extract w.heap.size w'.heap.size,?_⟩;obtain⟨h1,h2,h3,h4,h5⟩:=hx;cases w with|mk a b c d e=>cases w' with|mk a' b' c' d' e' =>
 simp only at h1 h2 h3 h4 h5 hd;subst h1;subst h2;subst h3;simp only[grow,World.drewN,World.mk.injEq,true_and,and_true];refine⟨?_,by omega⟩;apply Array.ext_getElem?;intro k;rw[Array.getElem?_append];split
 ·rename_i hk;exact h5 k hk
 ·rw[Array.getElem?_extract];split
  ·congr 1;omega
  ·rw[Array.getElem?_eq_none];omega
theorem abD{E:Env}{c:Cx}{W:World}{g:FuncId}{xs:List DV}{r0:DV}{v0:Value}{vs:List Value}(xG:aE E.G c)(bT:c.w.heap.size<=W.heap.size)(oB:∀ b,b<c.w.heap.size->¬ c.bad b->W.heap[b]?=c.w.heap[b]?)
  (hp:az E g xs (· = r0)) (hv:jY c.bad W xs vs) (hr:∀ w v,VD c.bad w r0 v->v=v0) :
  Calls E.P g vs.toArray W fun e w'=>e=.returned v0/\∃ q wb,w'=grow (W.drewN q) wb:=by
 unfold az at hp;have eU:∀ b,c.bad b->b<W.heap.size:=fun b hb=>Nat.lt_of_lt_of_le (hb.elim (xG.bE b) fun⟨j,n,hj⟩=>(xG.bI j b n hj).1) bT;have H3:∀ b,b<c.w.heap.size->¬ c.bad b->¬ c.bad b/\W.heap[b]?=c.w.heap[b]? := fun b hb hn=>⟨hn,oB b hb hn⟩;have yU:uq E.G c.bad W:=fun g e hg=>by
  have h:=xG.fB g e hg;generalize hq:(Value.pointer (some ⟨g,0,none⟩))=p at h ⊢;cases h with
  |b9 _ _ blk o' fv k1 k2 k3 k4 =>
   have ai:blk<c.w.heap.size:=by
    obtain⟨x,r,hx⟩:=List.exists_cons_of_ne_nil k2;exact World.block_lt_of_cell? _ _ (k3 0 x (by rw[hx];rfl))
   refine .b9 _ _ blk o' fv (fun hb=>k1 (wF.1 hb)) k2 (fun j x hx=>?_) (fun j x hx=>wG ((k4 j x hx).mono H3));have:=k3 j x hx;simp only[World.cell?]at this ⊢;rw[oB blk ai k1];exact this
 refine(Calls.drawn (hp.2 c.bad W vs eU yU hv) fun e w' ⟨v,r,h,_⟩=>⟨v,h⟩).mono fun e w' ⟨⟨v,r,e1,e2,e3,e4⟩,hd⟩=>?_;subst e2;refine⟨?_,grown_of e4 hd⟩;rw[e1,hr _ _ e3]
def Jt(P:Program)(f g K:Nat)(mk:List Value->Value):Prop:=∀ (n:Nat) (enc:Fin (n+1)->List Value) (cf:Fin (n+1)->Fin (n+1)->Int),(∀ i,(enc i).length=K)->(∀ i,∀ v∈enc i,v.oneCell'=true)->SWO (ltOf cf) ->
 ∀ (blk cap:Nat) (d:Array (Fin (n+1))) (w:World),
 (∀ (m:Nat) (os:Array Obj) (dk:Array (Fin (n+1))),dk.size=d.size->∀ i j,Calls P g #[mk (enc i),mk (enc j)] (sortWorldK enc K w blk 0 m dk os) fun e w'=>e=.returned (.int .i64 (cf i j))/\∃ q wb,w'=grow ((sortWorldK enc K w blk 0 m dk os).drewN q) wb) ->
 HoldsK enc K w blk 0 d->blk<w.heap.size->d.size<4611686018427387904 ->
 Calls P f #[.slice (some ⟨blk,0,none⟩) d.size cap,.func (.func g) #[] #[]] w fun e w'=>e=.returned (.tuple #[])/\∃ d' m os,PermIn 0 d.size d d'/\SortedIn (ltOf cf) 0 d.size d'/\w'=sortWorldK enc K w blk 0 m d' os
def Ju(mk:List Value->Value)(x:DV):Prop:=∀ (bad:Nat->Prop) (w:World) (vs:List Value),x.cells.length=vs.length->(∀ (j:Nat) (c:DV) (v:Value),x.cells[j]?=some c->vs[j]?=some v->VD bad w c v)->VD bad w x (mk vs)
def Rq(vs:List Value):Value := .agg vs.toArray
def mkOne(vs:List Value):Value:=vs[0]!
theorem abE(c:List DV):Ju Rq (.agg c):=fun bad w vs h k => .agg c _ (by have h:c.length=vs.length:=h;simpa using h) fun j x v hx hv=>k j x v hx (by simpa using hv)
theorem abF(x:DV)(hx:x.cells=[x]):Ju mkOne x:=fun bad w vs h k=>by
 rw[hx]at h k
 match vs,h with
 |[v],_=>exact k 0 x v rfl rfl
theorem B1{α:Type}[Inhabited α](enc:α->Value)(d:Array α):putCells id 0 (flatK (fun i=>[enc i]) 1 d)=putCells enc 0 d:=by
 funext c;unfold putCells
 congr 1
 funext k x;simp only[Nat.sub_zero,size_flatK,Nat.mul_one,id];split
 ·rename_i h;rw[get_flatK _ _ _ _ (by omega)];simp[Nat.mod_one]
 ·rfl
theorem Rr{α:Type}[Inhabited α](enc:α->Value)(w:World)(blk n:Nat)(d:Array α)(os:Array Obj):sortWorldK (fun i=>[enc i]) 1 w blk 0 n d os=sortWorld enc w blk 0 n d os:=by
 unfold sortWorldK sortWorld putRowK putRow;rw[B1]
theorem holds_one{α:Type}[Inhabited α](enc:α->Value)(w:World)(blk:Nat)(d:Array α)(h:HoldsK (fun i=>[enc i]) 1 w blk 0 d):Holds enc w blk 0 d:=fun j hj=>by
 have:=h j (by rw[size_flatK];omega);rw[get_flatK _ _ _ _ (by omega)]at this
 simpa [Nat.mod_one]using this
def Jv(P:Program)(f g:Nat):Prop:=∀ (n:Nat) (enc:Fin (n+1)->Value) (cf:Fin (n+1)->Fin (n+1)->Int),(∀ i,(enc i).oneCell'=true)->SWO (ltOf cf) ->
 ∀ (blk cap:Nat) (d:Array (Fin (n+1))) (w:World),
 (∀ (m:Nat) (os:Array Obj) (dk:Array (Fin (n+1))),dk.size=d.size->∀ i j,Calls P g #[enc i,enc j] (sortWorld enc w blk 0 m dk os) fun e w'=>e=.returned (.int .i64 (cf i j))/\∃ q wb,w'=grow ((sortWorld enc w blk 0 m dk os).drewN q) wb) ->
 Holds enc w blk 0 d->blk<w.heap.size->d.size<4611686018427387904 ->
 Calls P f #[.slice (some ⟨blk,0,none⟩) d.size cap,.func (.func g) #[] #[]] w fun e w'=>e=.returned (.tuple #[])/\∃ d' m os,PermIn 0 d.size d d'/\SortedIn (ltOf cf) 0 d.size d'/\w'=sortWorld enc w blk 0 m d' os
theorem Jv.w{P:Program}{f g:Nat}(h:Jv P f g):Jt P f g 1 mkOne:=fun n enc cf h1 h2 h3 blk cap d w h4 h5 h6 h7=>by
 obtain⟨e1,rfl⟩:∃ e1:Fin (n+1)->Value,enc=fun i=>[e1 i]:=⟨fun i=>(enc i)[0]!,by
  funext i;have:=h1 i;show enc i=[(enc i)[0]!];generalize enc i=e at this ⊢
  match e,this with
  |[v],_=>rfl⟩
 have hc:=h n e1 cf (fun i=>h2 i _ (List.mem_singleton.2 rfl)) h3 blk cap d w (fun m os dk hs i j=>by
  have:=h4 m os dk hs i j;rw[Rr]at this
  exact this) (holds_one _ _ _ _ h5) h6 h7
 refine hc.mono fun e w' ⟨a,d',m,os,b1,b2,b3⟩=>⟨a,d',m,os,b1,b2,?_⟩;rw[Rr];exact b3
theorem Rs{E:Env}{f g:FuncId}{t K:Nat}{mk:List Value->Value}{α:Type}(en:α->DV)(cmp:DV->DV->Int)(hS:Jt E.P f g K mk)(gZ:qN E.P f)(l:List α)(hl:l≠[])(hlen:l.length<4611686018427387904)(hK:∀ x∈l,(en x).cells.length=K)(ho:abd cmp (l.map en))
  (hA:∀ x∈l,Ju mk (en x)) (hc:∀ x∈l,∀ y∈l,az E g [en x,en y] (· = .int .i64 (cmp (en x) (en y)))) :
  aB E f [.arr 0 (t,K) (l.map en)] [.own 0 0,.fn (.func g) [] []] (fun a b=>a=.aK []/\∃ l':List α,l'.Perm l/\l'.Pairwise (fun x y=>¬ cmp (en y) (en x)<0)/\b=[.arr 0 (t,K) (l'.map en)]):=by
 unfold aB;refine⟨gZ,oK rfl,fun c vs h1 h2 h3=>?_⟩;obtain⟨v1,v2,rfl⟩:∃ v1 v2,vs=[v1,v2]:=by
  have:=h3.1
  match vs,this with
  |[a,b],_=>exact⟨a,b,rfl⟩
 have iP:=h3.2 0 _ v1 rfl rfl;have va:=h3.2 1 _ v2 rfl rfl;have dZ:c.heap[0]?=some (.arr 0 (t,K) (l.map en)):=by rw[h1];rfl
 obtain⟨u1,u2,rfl,e2,e3⟩:=l8 va;obtain rfl:u1=[]:=List.eq_nil_of_length_eq_zero (by have:=e2.1;simpa using this.symm);obtain rfl:u2=[]:=List.eq_nil_of_length_eq_zero (by have:=e3.1;simpa using this.symm);rcases nI dZ iP with⟨blk,cap,r1,rfl⟩|⟨sT,-,-⟩
 case inr=>exact absurd (List.map_eq_nil_iff.1 sT) hl
 obtain⟨q0,q1,q2⟩:=h2.box 0 _ dZ;rcases q2 with⟨q2,-⟩|⟨lk,jS,cQ,q2,q3,q4,q5,q6,q7⟩
 ·rw[r1]at q2;cases q2
 rw[r1]at q2;cases q2;simp only at q3 q4 q7;obtain⟨n,hn⟩:∃ n,l.length=n+1:=⟨l.length-1,by have:=List.length_pos_iff.2 hl;omega⟩
 let at_:Fin (n+1)->α:=fun i=>l[i.1]'(by have:=i.2;omega)
 have dH:∀ i:Fin (n+1),l[i.1]?=some (at_ i):=fun i=>List.getElem?_eq_getElem _;have ie:∀ i,at_ i∈l:=fun i=>List.mem_of_getElem? (dH i)
 let enc:Fin (n+1)->List Value:=fun i=>(List.range K).map fun j=>cQ[i.1*K+j]!
 have Jw:∀ i,(enc i).length=K:=fun i=>by simp[enc]
 have dQ:∀ (i:Fin (n+1)) (j:Nat),j<K->∃ x v,(en (at_ i)).cells[j]?=some x/\cQ[i.1*K+j]?=some v/\(enc i)[j]?=some v/\v.oneCell'=true/\VD c.bad c.w x v:=fun i j hj=>by
  obtain⟨x,hx⟩:∃ x,(en (at_ i)).cells[j]?=some x:=⟨(en (at_ i)).cells[j]'(by rw[hK _ (ie i)];exact hj),List.getElem?_eq_getElem _⟩;obtain⟨v,a1,a2,a3⟩:=q7 i.1 j (en (at_ i)) x (by rw[List.getElem?_map,dH i];rfl) hx;refine⟨x,v,hx,a1,?_,a2,a3⟩;simp only[enc,List.getElem?_map,List.getElem?_range hj,Option.map_some];rw[getElem!_def,a1]
 let cf:Fin (n+1)->Fin (n+1)->Int:=fun i j=>cmp (en (at_ i)) (en (at_ j))
 have hO:SWO (ltOf cf):={
  irrefl:=fun x=>by simpa [ltOf,cf]using ho.irrefl _ (List.mem_map_of_mem (ie x))
  trans:=fun x y z h1 h2=>by
   simp only[ltOf,cf,decide_eq_true_eq]at h1 h2 ⊢;exact ho.trans _ (List.mem_map_of_mem (ie x)) _ (List.mem_map_of_mem (ie y)) _ (List.mem_map_of_mem (ie z)) h1 h2
  ntrans:=fun x y z h1 h2=>by
   simp only[ltOf,cf,decide_eq_false_iff_not]at h1 h2 ⊢
   exact ho.ntrans _ (List.mem_map_of_mem (ie x)) _ (List.mem_map_of_mem (ie y)) _ (List.mem_map_of_mem (ie z)) h1 h2 }
 let d:Array (Fin (n+1)):=(List.finRange (n+1)).toArray
 have gQ:d.size=l.length:=by simp[d,hn]
 have hd:∀ i:Fin (n+1),d[i.1]?=some i:=fun i=>by simp[d]
 have Rt:∀ (i:Fin (n+1)) (j:Nat) (v:Value),(enc i)[j]?=some v->(enc i)[j]! = v:=fun i j v h=>by rw[getElem!_def,h]
 have hH:HoldsK enc K c.w blk 0 d:=by
  intro j hj;simp only[size_flatK,gQ]at hj;have abG:0<K:=Nat.pos_of_ne_zero fun h=>by subst h;simp at hj
  have hi:j / K<n+1:=by rw[<- hn];exact Nat.div_lt_of_lt_mul (by rw[Nat.mul_comm];exact hj)
  have hm:j % K<K:=Nat.mod_lt _ abG;have ej:j / K*K+j % K=j:=by rw[Nat.mul_comm];exact Nat.div_add_mod j K
  have f1:=gT (K:=K) enc d (j / K) (j % K) hm ⟨j / K,hi⟩ (hd ⟨j / K,hi⟩);obtain⟨x,v,b1,b2,b3,b4,b5⟩:=dQ ⟨j / K,hi⟩ (j % K) hm;rw[ej,Rt _ _ _ b3]at f1;simp only[ej]at b2;refine⟨?_,by simp[World.frozen?,q3]⟩;show _=some ((flatK enc K d)[j]!);rw[f1];exact mJ q3 _ _ (by simpa using b2)
 have hblk:=(h2.bI 0 blk cap r1).1
 have jf:=hS n enc cf Jw (fun i v hv=>by
  obtain⟨j,hj⟩:=List.getElem?_of_mem hv;have Eh:j<K:=by have:=a7 hj;rwa [Jw]at this
  obtain⟨x',v',b1,b2,b3,b4,b5⟩:=dQ i j Eh;rw[b3]at hj;cases hj;exact b4) hO blk cap d c.w (fun m os dk hs i j=>by
   obtain⟨a1,a2,a3,a4,a5,a6⟩:=Rf (enc:=enc) (K:=K) (n:=m) (d:=dk) (os:=os) q3;generalize sortWorldK enc K c.w blk 0 m dk os=W at a1 a2 a3 a4 a5 a6 ⊢;have oB:∀ b,b<c.w.heap.size->¬ c.bad b->W.heap[b]?=c.w.heap[b]? := fun b hb hn=>a5 b hb (fun e=>hn (e ▸ .inr ⟨0,cap,r1⟩))
   have fR:∀ i,VD c.bad W (en (at_ i)) (mk (enc i)):=fun i=>hA _ (ie i) c.bad W (enc i) (by rw[hK _ (ie i),Jw]) (fun j x v hx hv=>by
    have hj:j<K:=by have:=a7 hx;rwa [hK _ (ie i)]at this
    obtain⟨x',v',b1,b2,b3,b4,b5⟩:=dQ i j hj;rw[b1]at hx;cases hx;rw[b3]at hv;cases hv
    exact b5.mono fun b hb hn=>⟨hn,oB b hb hn⟩)
   exact abD (vs:=[mk (enc i),mk (enc j)]) h2 a4 oB (hc _ (ie i) _ (ie j)) ⟨rfl,fun k x v hx hv=>by
    match k,hx,hv with
    |0,hx,hv=>cases hx;cases hv;exact fR i
    |1,hx,hv=>cases hx;cases hv;exact fR j⟩ (fun w v hv=>by cases hv;rfl)) hH hblk (by rw[gQ];exact hlen)
 rw[gQ]at jf;have jZ:([Value.slice (some ⟨blk,0,none⟩) (l.map en).length cap,.func (.func g) ([]:List Value).toArray ([]:List Value).toArray]:List Value).toArray = #[.slice (some ⟨blk,0,none⟩) l.length cap,.func (.func g) #[] #[]]:=by simp
 rw[jZ];refine jf.mono fun e w' ⟨he,d',m,os,hp,hs,hw⟩=>?_;subst he;obtain⟨p1,-,p3⟩:=hp;have fT:d'.size=l.length:=by rw[p1,gQ]
 have abH:d'.toList.Perm (List.finRange (n+1)):=by
  have ex:∀ (a:Array (Fin (n+1))),a.size=l.length->(a.extract 0 l.length).toList=a.toList:=fun a ha=>by rw[<- ha,Array.extract_size]
  rw[ex d' fT,ex d gQ]at p3
  simpa [d]using p3
 have jB:(List.finRange (n+1)).map at_=l:=by
  apply List.ext_getElem?;intro i;rw[List.getElem?_map];rcases Nat.lt_or_ge i (n+1)with hi|hi
  ·have:=dH ⟨i,hi⟩;simp only at this;rw[this,List.getElem?_eq_getElem (by simpa using hi)];simp
  ·rw[List.getElem?_eq_none (by simpa using hi),List.getElem?_eq_none (by omega)];rfl
 have ny:(d'.toList.map at_).Perm l:=by
  have:=abH.map at_
  rwa [jB]at this
 have abI:(d'.toList.map at_).Pairwise (fun x y=>¬ cmp (en y) (en x)<0):=by
  rw[List.pairwise_map];refine List.pairwise_iff_getElem.2 fun i j hi hj dA=>?_;have cT:i<d'.size:=by simpa using hi
  have dL:j<d'.size:=by simpa using hj
  have:=hs i j (Nat.zero_le _) dA (by omega);rw[getElem!_pos d' j dL,getElem!_pos d' i cT]at this
  simpa [ltOf,cf]using this
 obtain⟨a1,a2,a3,a4,a5,a6⟩:=Rf (enc:=enc) (K:=K) (n:=m) (d:=d') (os:=os) q3;rw[<- hw]at a1 a2 a3 a4 a5 a6
 let c':Cx:={ c with heap:=[.arr 0 (t,K) ((d'.toList.map at_).map en)],w:=w' }
 have cj:∀ i bx,c.heap[i]?=some bx->i=0/\bx=.arr 0 (t,K) (l.map en):=fun i bx hi=>by
  rw[h1]at hi;cases i with
  |zero=>simp at hi;exact⟨rfl,hi.symm⟩
  |succ i=>simp at hi
 have lu:((d'.toList.map at_).map en).length=(l.map en).length:=by simp[fT]
 have aT:Step c c':=⟨rfl,h2.bE,a1,a2,a3,a4,fun b hb hn=>a5 b hb (fun e=>by subst e;exact hn 0 cap r1),fun i b n hi _=>⟨n,hi⟩,fun i bx hi=>by
  obtain⟨rfl,rfl⟩:=cj i bx hi
  exact .inl ⟨0,_,rfl,.inr ⟨rfl,lu,rfl⟩⟩⟩
 have aO:aE E.G c':=h2.next aT (fun i b n hi=>by
   have:=h2.bI i b n hi;refine⟨Nat.lt_of_lt_of_le this.1 a4,?_⟩;have h0:c.heap.length=1:=by rw[h1];rfl
   show i<1;omega) h2.inj (fun i bx hi=>by
  right;cases i with
  |succ i=>simp[c']at hi
  |zero =>
   simp[c']at hi;subst hi;refine⟨q0,fun i e he=>?_,.inr ⟨blk,cap,_,r1,a6,?_,?_,q6,fun i j e x he hx=>?_⟩⟩
   ·rw[<- List.map_map]at he;have:=(ny.map en).mem_iff.1 (List.mem_of_getElem? he);obtain⟨i2,lK⟩:=List.getElem?_of_mem this;exact q1 i2 e lK
   ·simp[putCells,q4]
   ·rw[<- List.map_map,lu];exact q5
   ·simp only[List.getElem?_map]at he;cases hq:d'.toList[i]? with
    |none=>rw[hq]at he;cases he
    |some y =>
     rw[hq]at he;cases he;have hi:i<l.length:=by have:=a7 hq;simpa [fT]using this
     have pG:d'[i]?=some y:=by simpa using hq
     have hx:(en (at_ y)).cells[j]?=some x:=hx;have Eh:j<K:=by have:=a7 hx;rwa [hK _ (ie y)]at this
     have f1:=gT (K:=K) enc d' i j Eh y pG;obtain⟨x',v,b1,b2,b3,b4,b5⟩:=dQ y j Eh;rw[b1]at hx;cases hx;rw[Rt _ _ _ b3]at f1;have gK:cQ.size=cap*K:=q4;have tC:l.length<=cap:=by have:=q5;rwa [List.length_map]at this
     have h5:i*K+j<cQ.size:=by
      have h6:(i+1)*K<=cap*K:=Nat.mul_le_mul_right K (by omega);rw[Nat.succ_mul]at h6;omega
     have h7:i*K+j<l.length*K:=by
      have h6:(i+1)*K<=l.length*K:=Nat.mul_le_mul_right K (by omega);rw[Nat.succ_mul]at h6;omega
     refine⟨v,?_,b4,aT.vd b5⟩;simp only[putCells,Array.getElem?_mapIdx,Array.getElem?_eq_getElem h5,Option.map_some];rw[if_pos ⟨Nat.zero_le _,by rw[size_flatK,fT];omega⟩]
     exact congrArg some f1)
 refine⟨c',.aK [],.tuple #[],rfl,rfl,⟨rfl,_,ny,abI,rfl⟩,.aK [] #[] rfl (fun j x v hx=>by simp at hx),aO,?_⟩
 exact⟨rfl,a1,a2,a3,a4,fun b hb hn=>a5 b hb (fun e=>by subst e;exact hn 0 cap r1),fun i b n hi _=>⟨n,hi⟩,fun i bx hi=>by
  obtain⟨rfl,rfl⟩:=cj i bx hi
  exact .inl ⟨0,_,rfl,.inr ⟨rfl,lu,rfl⟩⟩⟩
end Go.Proofs.YtcmnpelmmekdkaaGreatDoor.P
end
