/- Lemmas of mine. Conditions: as stated. -/
import Derived.Test.YtcmnpelmmekdkaaGreatDoorV13
set_option linter.unusedVariables false
set_option linter.unusedSimpArgs false
section
namespace Go.Proofs.YtcmnpelmmekdkaaGreatDoor.P
open Go Go.aA
set_option maxRecDepth 100000
set_option maxHeartbeats 4000000
theorem Ek{G:List (Nat × DV)}{s:List AV}:bh G s (.const (.slice none 0 0)) (.d .aW):=fun c a _ _ => .d _ _ .aW
theorem ab9(es:List (DV × DV)):aB E 35 [.map es] [.map 0] (fun a b=>a=.fn (.func 75) [] [.ptr 1 0]/\b=[.map es,.cells [.map 0]]):=by
 refine aB.run ag (fn:=Tryz.f35) Tryz.func35 (body:=Tryz.f35.body.getD .skip) rfl (by decide) 2000 rfl ?_;(conv=>whnf);exact⟨rfl,rfl⟩
theorem JA(w:cR)(s:Text)(hf:w.Fits)(iU:s.length<=maxLen):az E 11 [w.enc,.str s] (· = .aK [qB (sd w s),.int .i64 (pq w s)]):=by
 have cw:=D2 w hf;have cs:=lL s iU;have iq:eI w=false\/Nm.valid s=false->sd w s=[]/\pq w s=1:=fun h=>by
  have:¬ (eI w&&Nm.valid s)=true:=by rcases h with h|h<;>simp[h]
  exact⟨if_neg this,if_neg this⟩
 cases h1:eI w
 ·obtain⟨e1,e2⟩:=iq (.inl h1);rw[h1]at cw;rw[e1,e2];refine eP F11 ?_;refine aj (cw) ?_;refine gO F11 ?_;refine bq ?_;refine gO F11 ?_;refine bq ?_;refine gO F11 ?_;rfl
 cases h2:Nm.valid s
 ·obtain⟨e1,e2⟩:=iq (.inr h2);rw[h1]at cw;rw[h2]at cs;rw[e1,e2];refine eP F11 ?_;refine aj (cw) ?_;refine gO F11 ?_;refine aV ?_;refine gO F11 ?_;refine aj (cs) ?_;refine gO F11 ?_;refine bq ?_;refine gO F11 ?_;rfl
 rw[h1]at cw;rw[h2]at cs;obtain⟨H,hl⟩:=vZ h1;have e1:sd w s=ik w.au s:=if_pos (by simp[h1,h2]);have e2:pq w s=0:=if_pos (by simp[h1,h2]);have aM:ik w.au s≠[]:=fun e=>by
  have:=P' (s:=s) H;rw[e]at this;cases this
 have e3:qB (ik w.au s)=.sl ((ik w.au s).map .str):=if_neg aM;rw[e1,e2,e3];have c0:=RD w s hf.au H hl h2;have tR:=Rb rV (gY (eY w.au s));obtain⟨Z,hZ⟩:∃ x,fO [] (gY (eY w.au s))=x:=⟨_,rfl⟩;have tN:∀ z,z∈Z↔z∈gY (eY w.au s):=fun z=>by rw[<- hZ,AP];simp
 have El:Z.Nodup:=by rw[<- hZ];exact Il List.nodup_nil
 rw[hZ]at tR;rw[tR]at c0;clear tR hZ;have jV:Z.length<=2000000000:=by
  have h:=aba (s:=s) H hl;exact Nat.le_trans (ya El fun x hx=>r8.2 ((tN x).1 hx)) h
 have zg:∀ z∈Z,Nm.valid z=true:=fun z hz=>ZB H z (r8.2 ((tN z).1 hz));obtain⟨es,we⟩:∃ es,(Z.map fun a=>(DV.str a,DV.bool true))=es:=⟨_,rfl⟩;rw[we]at c0;refine eP F11 ?_;refine aj (cw) ?_;refine gO F11 ?_;refine aV ?_;refine gO F11 ?_;refine aj (cs) ?_;refine gO F11 ?_;refine aV ?_;refine gO F11 ?_;refine w7 (ds:=[w.enc,.str s]) c0 ?_;rintro r b ⟨rfl,rfl⟩;refine gO F11 ?_
 with_reducible refine bG (ab9 es) ?_
 (conv=>whnf);repeat ((fail_if_success (first|(refine aa.oc (fn:=Tryz.f34) rfl rfl fz (mw (bg rfl) fz) Tryz.func34 rfl (by decide) ?_)|fail));(refine aa.run ag F11 1 ?_);(conv=>whnf))
 refine aa.oc (fn:=Tryz.f34) rfl rfl fz (mw (bg rfl) fz) Tryz.func34 rfl (by decide) ?_;(conv=>whnf);(conv=>whnf);repeat ((fail_if_success (first|(refine aa.oc (fn:=Tryz.f73) rfl rfl fz (kv (bg rfl)) Tryz.func73 rfl (by decide) ?_)|fail));(refine aa.run ag Tryz.func34 1 ?_);(conv=>whnf))
 refine aa.oc (fn:=Tryz.f73) rfl rfl fz (kv (bg rfl)) Tryz.func73 rfl (by decide) ?_;(conv=>whnf);(conv=>whnf);repeat ((fail_if_success (first|(refine aa.oc (fn:=Tryz.f113) rfl rfl fz (mw Ek (bg rfl)) Tryz.func113 rfl (by decide) ?_)|fail));(refine aa.run ag Tryz.func73 1 ?_);(conv=>whnf))
 refine aa.oc (fn:=Tryz.f113) rfl rfl fz (mw Ek (bg rfl)) Tryz.func113 rfl (by decide) ?_;(conv=>whnf);(conv=>whnf);(conv=>whnf);repeat ((fail_if_success (first|(refine aa.tA 7 0 (9,1) (by decide) rfl rfl ?_)|fail));(refine aa.run ag F113 1 ?_);(conv=>whnf))
 refine aa.tA 7 0 (9,1) (by decide) rfl rfl ?_;(conv=>whnf);(conv=>whnf);repeat ((fail_if_success (first|(refine aa.rangeFunc (bg rfl) Tryz.func75 rfl (by decide) rfl (fun ll d t=>?_))|fail));(refine aa.run ag F113 1 ?_);(conv=>whnf))
 refine aa.rangeFunc (bg rfl) Tryz.func75 rfl (by decide) rfl (fun ll d t=>?_);(conv=>whnf);(conv=>whnf);repeat ((fail_if_success (first|(refine aa.range ag rfl rfl rfl rfl (bg rfl) rfl (Nat.zero_le _) (fun it ri jt rS=>?_))|fail));(refine aa.run ag F75 1 ?_);(conv=>whnf))
 refine aa.range ag rfl rfl rfl rfl (bg rfl) rfl (Nat.zero_le _) (fun it ri jt rS=>?_);(conv=>whnf);obtain⟨bm,r,en,ck,since,seen,eC⟩:=it;simp only at ri jt rS;subst ri;subst jt;refine gO F75 ?_;refine aa.OM (κ:=List Nat) ([1,4]++[3,6,7,8,9,10,11,12,13]) (fun _=>[]) (fun x=>[(6,.gone),(7,.cells [.own 8 1]),(8,.arr 1 (9,1) ((k9 Z x).map .str))]) (fun x=>[.iter ⟨bm,r,en,ck,since,x,eC⟩]) (fun x=>x.Nodup/\∀ j∈x,j<Z.length) (fun x=>Z.length-x.length) [] ⟨List.nodup_nil,fun j hj=>by cases hj⟩ rfl ?_ ?_
 ·(conv=>whnf);repeat (first|exact trivial|(refine sI ?_;conv=>whnf))
  refine And.intro rfl ?_;exact sZ
 rintro seen ⟨o7,wg⟩ IH;have oh:=Rc (xs:=Z) (seen:=seen);have ab':=Eb o7 wg;refine aa.head ag F75 2000 ?_;(conv=>whnf);refine aa.next (it:=⟨bm,r,en,ck,since,seen,eC⟩) (g1:=[]) (g2:=[]) rfl rfl rS rfl (bg rfl) (fun aX=>?_) (fun j kk y hj fW=>?_)
 ·refine gO F75 ?_;refine aV ?_;refine gO F75 ?_;refine aa.xX ag F75 rfl rfl rfl rfl (fun e=>nomatch e) ?_;(conv=>whnf);have ny:(k9 Z seen).Perm Z:=Re o7 wg fun j hj=>aX j (by rw[<- we];simpa using hj);generalize k9 Z seen=K at ny oh ⊢;have aca:K≠[]:=fun e=>by
   subst e;have Gy:Z=[]:=List.nil_perm.1 ny;have:=(tN [46]).2 (r8.1 (P' H));rw[Gy]at this;cases this
  have c3:=abU K aca (by rw[ny.length_eq];omega) (fun x hx=>zg x (ny.mem_iff.1 hx));(conv=>whnf);repeat ((fail_if_success (first|(refine aa.od ag F113 rfl rfl rfl (L:=[]) rfl ?_)|fail));(refine aa.run ag F113 1 ?_);(conv=>whnf))
  refine aa.od ag F113 rfl rfl rfl (L:=[]) rfl ?_;(conv=>whnf);(conv=>whnf);repeat ((fail_if_success (first|(refine aa.od ag Tryz.func73 rfl rfl rfl (L:=[]) rfl ?_)|fail));(refine aa.run ag Tryz.func73 1 ?_);(conv=>whnf))
  refine aa.od ag Tryz.func73 rfl rfl rfl (L:=[]) rfl ?_;(conv=>whnf);refine gO Tryz.func34 ?_
  with_reducible refine sN (c3) ?_
  rintro r b ⟨rfl,L,p1,p2,rfl⟩;(conv=>whnf);(conv=>whnf);repeat ((fail_if_success (first|(refine aa.od ag Tryz.func34 rfl rfl rfl (L:=[]) rfl ?_)|fail));(refine aa.run ag Tryz.func34 1 ?_);(conv=>whnf))
  refine aa.od ag Tryz.func34 rfl rfl rfl (L:=[]) rfl ?_;(conv=>whnf);refine gO F11 ?_;rw[aa7 El tN (p1.trans ny) p2]
 ·obtain⟨z,hz,e⟩:∃ z,Z[j]?=some z/\(DV.str z,DV.bool true)=(kk,y):=by rw[<- we]at hj;simpa using hj
  cases e;have mK:=a7 hz;have JB:=Jn (seen:=seen) hz;have fE:(seen++[j]).Nodup:=by
   rw[List.nodup_append];exact⟨o7,by simp,fun a ha b hb e=>by simp at hb;subst hb;subst e;exact fW ha⟩
  have Bw:∀ i∈seen++[j],i<Z.length:=fun i hi=>by rcases List.mem_append.1 hi with h|h;exact wg i h;simp at h;omega
  have JC:=Eb fE Bw;rw[List.length_append,List.length_singleton]at JC;refine gO F75 ?_;refine bq ?_;refine gO F75 ?_;refine aa.entry (it:=⟨bm,r,en,ck,since,seen++[j],eC⟩) (g1:=[]) (g2:=[]) (pre:=seen) (j:=j) rfl rfl rfl rfl hj (bg rfl) ?_;(conv=>whnf);repeat ((fail_if_success (first|(refine aa.yield 0 rfl rfl rfl (bg rfl) (kv (bg rfl)) rfl ?_)|fail));(refine aa.run ag F75 1 ?_);(conv=>whnf))
  refine aa.yield 0 rfl rfl rfl (bg rfl) (kv (bg rfl)) rfl ?_;(conv=>whnf);(conv=>whnf);repeat ((fail_if_success (first|(refine aa.begin 0 rfl rfl rfl ?_)|fail));(refine aa.run ag F113 1 ?_);(conv=>whnf))
  refine aa.begin 0 rfl rfl rfl ?_;(conv=>whnf);refine gO F113 ?_;refine bB ⟨by simp;omega,by simp[DV.cells]⟩ ?_;refine gO F113 ?_;refine aa.AI 0 rfl rfl rfl ?_;(conv=>whnf);refine gO F75 ?_;refine aP (by decide) ?_;refine gO F75 ?_;refine aa.back (IH (seen++[j]) ⟨fE,Bw⟩ (by simp;omega)) ?_;(conv=>whnf);repeat (first|exact trivial|(refine sI ?_;conv=>whnf))
  refine And.intro (by rw[JB];simp) ?_;exact sZ
end Go.Proofs.YtcmnpelmmekdkaaGreatDoor.P
end
section
namespace Go.Proofs.YtcmnpelmmekdkaaGreatDoor.P
open Go Go.aA Go.Sort
set_option maxRecDepth 100000
set_option maxHeartbeats 4000000
theorem ach{w:cR}{zs:List Text}{K:List Int}(hK:K.Nodup)(hm:∀ o,o∈K↔∃ p∈w.au,nw w p=o/\p.aC.ad∈zs)(hr:∀ p∈w.au,0<=nw w p/\nw w p<32):jQ K=yp w zs 32:=by
 refine DI (lt:=fun a b:Int=>decide (a<b)) (fun a=>by simp) (fun a b c h k=>by simp at *;omega) ?_ aa6 fun o=>?_
 ·have h1:=acb K;have h2:(jQ K).Nodup:=(Em K).nodup_iff.2 hK;rw[List.nodup_iff_pairwise_ne]at h2;exact(h1.and h2).imp fun{a b} h=>by simp;omega
 ·rw[(Em K).mem_iff,hm,aa5,aa4];constructor
  ·rintro⟨p,h1,h2,h3⟩;have:=hr p h1;exact⟨by rw[<- h2];exact this,p,h1,h2,h3⟩
  ·exact fun h=>h.2
theorem aci:aB E 82 [.arr 0 (3,1) []] [.own 0 0] (fun a b=>a=.aK []/\b=[.arr 0 (3,1) []]):=by
 unfold aB;refine⟨⟨_,Tryz.func82,rfl,by decide⟩,oK rfl,fun c vs h1 h2 h3=>?_⟩;obtain⟨v1,rfl⟩:∃ v1,vs=[v1]:=by
  have:=h3.1
  match vs,this with
  |[a],_=>exact⟨a,rfl⟩
 have dZ:c.heap[0]?=some (.arr 0 (3,1) []):=by rw[h1];rfl
 obtain⟨p,cap,rfl⟩:∃ p cap,v1=.slice p 0 cap:=by
  rcases nI dZ (h3.2 0 _ v1 rfl rfl)with⟨blk,cap,_,rfl⟩|⟨_,rfl,_⟩
  ·exact⟨_,cap,rfl⟩
  ·exact⟨_,_,rfl⟩
 refine(AnyM.slices_Sort_int_none Tryz.sortInt p cap c.w).mono fun e w' ⟨a1,a2⟩=>?_;subst a2;exact⟨c,.aK [],.tuple #[],a1,rfl,⟨rfl,h1⟩,.aK [] #[] rfl (fun j x v hx=>by simp at hx),h2,Rel.refl c (by rw[h1];exact oK rfl)⟩
theorem acj(l:List Int)(hlen:l.length<4611686018427387904):aB E 82 [.arr 0 (3,1) (l.map (DV.int .i64))] [.own 0 0] (fun a b=>a=.aK []/\b=[.arr 0 (3,1) ((jQ l).map (DV.int .i64))]):=by
 by_cases h:l=[]
 ·subst h;have e:jQ []=[]:=List.perm_nil.1 (Em []);rw[e];exact aci
 ·exact acg l h hlen
def nz(w:cR)(zs:List Text)(k:Nat):List Int:=((w.au.take k).filter fun p=>decide (p.aC.ad∈zs)).map (nw w)
theorem ack{w:cR}{zs:List Text}{k:Nat}{p:aH}(h:w.au[k]?=some p):nz w zs (k+1)=if p.aC.ad∈zs then nz w zs k++[nw w p]else nz w zs k:=by
 rw[nz,ey h,List.filter_append,List.map_append];by_cases hp:p.aC.ad∈zs<;>simp[hp,nz]
theorem acm{es:List (DV × DV)}(h:lQ (DV.int .i64) es):∀ p∈es,eh E.T (.int .i64) p.1:=fun p hp=>by
 obtain⟨n,e⟩:=h p hp;rw[e];exact⟨_,rfl⟩
theorem acn(es:List (DV × DV)):aB E 40 [.map es] [.map 0] (fun a b=>a=.fn (.func 83) [] [.ptr 1 0]/\b=[.map es,.cells [.map 0]]):=by
 refine aB.run ag (fn:=Tryz.f40) Tryz.func40 (body:=Tryz.f40.body.getD .skip) rfl (by decide) 2000 rfl ?_;(conv=>whnf);exact⟨rfl,rfl⟩
theorem RG(w:cR)(s:Text)(hf:w.Fits)(iU:s.length<=maxLen):az E 13 [w.enc,.str s] (· = .aK [.sl ((Br w s).map (.int .i64)),.int .i64 (pq w s)]):=by
 have cw:=D2 w hf;have cs:=lL s iU;have iq:eI w=false\/Nm.valid s=false->Br w s=[]/\pq w s=1:=fun h=>by
  have:¬ (eI w&&Nm.valid s)=true:=by rcases h with h|h<;>simp[h]
  exact⟨if_neg this,if_neg this⟩
 cases h1:eI w
 ·obtain⟨e1,e2⟩:=iq (.inl h1);rw[h1]at cw;rw[e1,e2];refine az.norm ?_;refine eP F13 ?_;refine aj (cw) ?_;refine gO F13 ?_;refine bq ?_;refine gO F13 ?_;refine bq ?_;refine gO F13 ?_;rfl
 cases h2:Nm.valid s
 ·obtain⟨e1,e2⟩:=iq (.inr h2);rw[h1]at cw;rw[h2]at cs;rw[e1,e2];refine az.norm ?_;refine eP F13 ?_;refine aj (cw) ?_;refine gO F13 ?_;refine aV ?_;refine gO F13 ?_;refine aj (cs) ?_;refine gO F13 ?_;refine bq ?_;refine gO F13 ?_;rfl
 rw[h1]at cw;rw[h2]at cs;obtain⟨H,hl⟩:=vZ h1;have RH:=aa' h1;have e1:Br w s=yp w (ik w.au s) 32:=if_pos (by simp[h1,h2]);have e2:pq w s=0:=if_pos (by simp[h1,h2]);have kC:∀ z,z∈gY (eY w.au s)↔z∈ik w.au s:=fun z=>r8.symm;rw[e1,e2];have c0:=RD w s hf.au H hl h2;obtain⟨zs,gL⟩:∃ x,gY (eY w.au s)=x:=⟨_,rfl⟩;rw[gL]at c0 kC;refine eP F13 ?_;refine aj (cw) ?_;refine gO F13 ?_;refine aV ?_;refine gO F13 ?_;refine aj (cs) ?_;refine gO F13 ?_;refine aV ?_;refine gO F13 ?_;refine w7 (ds:=[w.enc,.str s]) c0 ?_;rintro r b ⟨rfl,rfl⟩;refine gO F13 ?_;refine gO F13 ?_;refine aa.loop (κ:=Nat) ([9]++rg 25 18) (fun k=>[(25,.d (.int .i64 k))]) (fun k=>[(6,.map (fZ (DV.int .i64) (nz w zs k)))]) (fun k=>k<=w.au.length) (fun k=>w.au.length-k) 0 (Nat.zero_le _) ?_ ?_
 ·(conv=>whnf);repeat (first|exact trivial|(refine sI ?_;conv=>whnf))
  refine And.intro rfl ?_;exact sZ
 intro k hk IH;refine aa.head ag F13 2000 ?_;(conv=>whnf);refine ar (fun h5=>?_) (fun h5=>?_)
 ·have ai:k<w.au.length:=by simpa using h5
  obtain⟨p,hp⟩:=bd ai;obtain⟨x,hx,q1,q2,q3,q4⟩:=RH p (List.mem_of_getElem? hp);have bj:=ack (zs:=zs) hp;obtain⟨pF,Bd⟩:=Dv rV zs p.aC.ad;have dJ:=tK (tD rV zs).1;have Bi:=acm (tD Pj (nz w zs k)).1;refine gO F13 ?_;refine aD (e:=p.enc) (aU hp) rfl ?_;refine gO F13 ?_;refine jx (.bool false) (.bool false) ⟨_,rfl⟩ dJ (fun w=>by kernel_rfl) (fun _ _ => .bool _) pF Bd ?_;refine gO F13 ?_;by_cases hm:p.aC.ad∈zs
  ·rw[if_pos hm]at bj;refine aJ (by simp[hm]) ?_;refine gO F13 ?_;refine aD (e:=x.enc) ⟨q1,by rw[List.getElem?_map,hx];rfl⟩ rfl ?_;refine gO F13 ?_;refine bB ⟨⟨_,rfl⟩,Bi⟩ ?_;refine gO F13 ?_;refine aa.back (IH (k+1) (by omega) (by omega)) ?_;(conv=>whnf);repeat (first|exact trivial|(refine sI ?_;conv=>whnf))
   refine And.intro (by rw[bj,AO,q2]) ?_;exact sZ
  ·rw[if_neg hm]at bj;refine aP (by simp[hm]) ?_;refine gO F13 ?_;refine aa.back (IH (k+1) (by omega) (by omega)) ?_;(conv=>whnf);repeat (first|exact trivial|(refine sI ?_;conv=>whnf))
   refine And.intro (by rw[bj]) ?_;exact sZ
 have aL : k=w.au.length := by have : w.au.length <= k := by simpa using h5
                               omega
 subst aL;have tR:=Rb Pj (nz w zs w.au.length);obtain⟨Z,hZ⟩:∃ x,fO [] (nz w zs w.au.length)=x:=⟨_,rfl⟩;have tN:∀ o,o∈Z↔∃ p∈w.au,nw w p=o/\p.aC.ad∈ik w.au s:=fun o=>by
  rw[<- hZ,AP,nz,List.take_length];simp only[List.not_mem_nil,false_or,List.mem_map,List.mem_filter,decide_eq_true_eq];constructor
  ·rintro⟨p,⟨a1,a2⟩,rfl⟩;exact⟨p,a1,rfl,(kC _).1 a2⟩
  ·rintro⟨p,a1,rfl,a2⟩;exact⟨p,⟨a1,(kC _).2 a2⟩,rfl⟩
 have hr:∀ p∈w.au,0<=nw w p/\nw w p<32:=fun p hp=>by
  obtain⟨x,hx,q1,q2,q3,q4⟩:=RH p hp;rw[q2];exact⟨q3,q4⟩
 have El:Z.Nodup:=by rw[<- hZ];exact Il List.nodup_nil
 rw[hZ]at tR;have jV:Z.length<=2000000000:=by
  have h:=Im (acc:=[]) (l:=nz w zs w.au.length);rw[hZ]at h;have h2:(nz w zs w.au.length).length<=w.au.length:=by
   rw[nz,List.length_map,List.take_length];exact List.length_filter_le ..
  simp at h;omega
 obtain⟨es,we⟩:∃ es,(Z.map fun a=>(DV.int .i64 a,DV.bool true))=es:=⟨_,rfl⟩;rw[we]at tR;rw[tR];clear tR hZ;refine gO F13 ?_
 with_reducible refine bG (acn es) ?_
 (conv=>whnf);repeat ((fail_if_success (first|(refine aa.oc (fn:=Tryz.f39) rfl rfl fz (kv (bg rfl)) Tryz.func39 rfl (by decide) ?_)|fail));(refine aa.run ag F13 1 ?_);(conv=>whnf))
 refine aa.oc (fn:=Tryz.f39) rfl rfl fz (kv (bg rfl)) Tryz.func39 rfl (by decide) ?_;(conv=>whnf);(conv=>whnf);repeat ((fail_if_success (first|(refine aa.oc (fn:=Tryz.f81) rfl rfl fz (kv (bg rfl)) Tryz.func81 rfl (by decide) ?_)|fail));(refine aa.run ag Tryz.func39 1 ?_);(conv=>whnf))
 refine aa.oc (fn:=Tryz.f81) rfl rfl fz (kv (bg rfl)) Tryz.func81 rfl (by decide) ?_;(conv=>whnf);(conv=>whnf);repeat ((fail_if_success (first|(refine aa.oc (fn:=Tryz.f125) rfl rfl fz (mw Ek (bg rfl)) Tryz.func125 rfl (by decide) ?_)|fail));(refine aa.run ag Tryz.func81 1 ?_);(conv=>whnf))
 refine aa.oc (fn:=Tryz.f125) rfl rfl fz (mw Ek (bg rfl)) Tryz.func125 rfl (by decide) ?_;(conv=>whnf);(conv=>whnf);(conv=>whnf);repeat ((fail_if_success (first|(refine aa.tA 8 0 (3,1) (by decide) rfl rfl ?_)|fail));(refine aa.run ag F125 1 ?_);(conv=>whnf))
 refine aa.tA 8 0 (3,1) (by decide) rfl rfl ?_;(conv=>whnf);(conv=>whnf);repeat ((fail_if_success (first|(refine aa.rangeFunc (bg rfl) Tryz.func83 rfl (by decide) rfl (fun ll d t=>?_))|fail));(refine aa.run ag F125 1 ?_);(conv=>whnf))
 refine aa.rangeFunc (bg rfl) Tryz.func83 rfl (by decide) rfl (fun ll d t=>?_);(conv=>whnf);(conv=>whnf);repeat ((fail_if_success (first|(refine aa.range ag rfl rfl rfl rfl (bg rfl) rfl (Nat.zero_le _) (fun it ri jt rS=>?_))|fail));(refine aa.run ag F83 1 ?_);(conv=>whnf))
 refine aa.range ag rfl rfl rfl rfl (bg rfl) rfl (Nat.zero_le _) (fun it ri jt rS=>?_);(conv=>whnf);obtain⟨bm,r,en,ck,since,seen,eC⟩:=it;simp only at ri jt rS;subst ri;subst jt;refine gO F83 ?_;refine aa.OM (κ:=List Nat) ([1,4]++[3,6,7,8,9,10,11,12,13]) (fun _=>[]) (fun x=>[(7,.gone),(8,.cells [.own 9 1]),(9,.arr 1 (3,1) ((k9 Z x).map (.int .i64)))]) (fun x=>[.iter ⟨bm,r,en,ck,since,x,eC⟩]) (fun x=>x.Nodup/\∀ j∈x,j<Z.length) (fun x=>Z.length-x.length) [] ⟨List.nodup_nil,fun j hj=>by cases hj⟩ rfl ?_ ?_
 ·(conv=>whnf);repeat (first|exact trivial|(refine sI ?_;conv=>whnf))
  refine And.intro rfl ?_;exact sZ
 rintro seen ⟨o7,wg⟩ IH;have oh:=Rc (xs:=Z) (seen:=seen);have ab':=Eb o7 wg;refine aa.head ag F83 2000 ?_;(conv=>whnf);refine aa.next (it:=⟨bm,r,en,ck,since,seen,eC⟩) (g1:=[]) (g2:=[]) rfl rfl rS rfl (bg rfl) (fun aX=>?_) (fun j kk y hj fW=>?_)
 ·refine gO F83 ?_;refine aV ?_;refine gO F83 ?_;refine aa.xX ag F83 rfl rfl rfl rfl (fun e=>nomatch e) ?_;(conv=>whnf);have ny:(k9 Z seen).Perm Z:=Re o7 wg fun j hj=>aX j (by rw[<- we];simpa using hj);generalize k9 Z seen=K at ny oh ⊢;have c3:=acj K (by rw[ny.length_eq];omega);have hKn:K.Nodup:=ny.nodup_iff.2 El;have hKm:∀ o,o∈K↔∃ p∈w.au,nw w p=o/\p.aC.ad∈ik w.au s:=fun o=>by rw[ny.mem_iff,tN]
  (conv=>whnf);repeat ((fail_if_success (first|(refine aa.od ag F125 rfl rfl rfl (L:=[]) rfl ?_)|fail));(refine aa.run ag F125 1 ?_);(conv=>whnf))
  refine aa.od ag F125 rfl rfl rfl (L:=[]) rfl ?_;(conv=>whnf);(conv=>whnf);repeat ((fail_if_success (first|(refine aa.od ag Tryz.func81 rfl rfl rfl (L:=[]) rfl ?_)|fail));(refine aa.run ag Tryz.func81 1 ?_);(conv=>whnf))
  refine aa.od ag Tryz.func81 rfl rfl rfl (L:=[]) rfl ?_;(conv=>whnf);refine gO Tryz.func39 ?_
  with_reducible refine bG c3 ?_
  (conv=>whnf);(conv=>whnf);repeat ((fail_if_success (first|(refine aa.od ag Tryz.func39 rfl rfl rfl (L:=[]) rfl ?_)|fail));(refine aa.run ag Tryz.func39 1 ?_);(conv=>whnf))
  refine aa.od ag Tryz.func39 rfl rfl rfl (L:=[]) rfl ?_;(conv=>whnf);refine gO F13 ?_;rw[ach hKn hKm hr]
 ·obtain⟨z,hz,e⟩:∃ z,Z[j]?=some z/\(DV.int .i64 z,DV.bool true)=(kk,y):=by rw[<- we]at hj;simpa using hj
  cases e;have mK:=a7 hz;have JB:=Jn (seen:=seen) hz;have fE:(seen++[j]).Nodup:=by
   rw[List.nodup_append];exact⟨o7,by simp,fun a ha b hb e=>by simp at hb;subst hb;subst e;exact fW ha⟩
  have Bw:∀ i∈seen++[j],i<Z.length:=fun i hi=>by rcases List.mem_append.1 hi with h|h;exact wg i h;simp at h;omega
  have JC:=Eb fE Bw;rw[List.length_append,List.length_singleton]at JC;refine gO F83 ?_;refine bq ?_;refine gO F83 ?_;refine aa.entry (it:=⟨bm,r,en,ck,since,seen++[j],eC⟩) (g1:=[]) (g2:=[]) (pre:=seen) (j:=j) rfl rfl rfl rfl hj (bg rfl) ?_;(conv=>whnf);repeat ((fail_if_success (first|(refine aa.yield 0 rfl rfl rfl (bg rfl) (kv (bg rfl)) rfl ?_)|fail));(refine aa.run ag F83 1 ?_);(conv=>whnf))
  refine aa.yield 0 rfl rfl rfl (bg rfl) (kv (bg rfl)) rfl ?_;(conv=>whnf);(conv=>whnf);repeat ((fail_if_success (first|(refine aa.begin 0 rfl rfl rfl ?_)|fail));(refine aa.run ag F125 1 ?_);(conv=>whnf))
  refine aa.begin 0 rfl rfl rfl ?_;(conv=>whnf);refine gO F125 ?_;refine bB ⟨by simp;omega,by simp[DV.cells]⟩ ?_;refine gO F125 ?_;refine aa.AI 0 rfl rfl rfl ?_;(conv=>whnf);refine gO F83 ?_;refine aP (by decide) ?_;refine gO F83 ?_;refine aa.back (IH (seen++[j]) ⟨fE,Bw⟩ (by simp;omega)) ?_;(conv=>whnf);repeat (first|exact trivial|(refine sI ?_;conv=>whnf))
  refine And.intro (by rw[JB];simp) ?_;exact sZ
end Go.Proofs.YtcmnpelmmekdkaaGreatDoor.P
end
section
namespace Go.Proofs.YtcmnpelmmekdkaaGreatDoor.P
open Go Go.aA
set_option maxRecDepth 100000
set_option maxHeartbeats 4000000
theorem acq(l:List Text)(v:Text)(hl:l.length<=1000000):az E 89 [.sl (l.map .str),.str v] (fun r=>∃ n:Int,r=.int .i64 n/\(0<=n↔v∈l)):=by
 refine eP F89 ?_;refine aa.loop (κ:=Nat) ([4,5]++rg 8 11) (fun k=>[(8,.d (.int .i64 k))]) (fun _=>[]) (fun k=>k<=l.length/\∀ j x,j<k->l[j]?=some x->v≠x) (fun k=>l.length-k) 0 ⟨Nat.zero_le _,fun j x h=>by omega⟩ ?_ ?_
 ·exact sZ
 rintro k ⟨hk,aX⟩ IH;refine aa.head ag F89 2000 ?_;(conv=>whnf);refine ar (fun h5=>?_) (fun h5=>?_)
 ·have ai:k<l.length:=by simpa using h5
  obtain⟨x,hx⟩:=bd ai;refine gO F89 ?_;refine aD (e := .str x) (aU hx) rfl ?_;refine gO F89 ?_;by_cases e:v=x
  ·refine aJ (by simpa using e) ?_;refine gO F89 ?_;exact⟨k,rfl,fun _=>e ▸ List.mem_of_getElem? hx,fun _=>by omega⟩
  ·refine aP (by simpa using e) ?_;refine gO F89 ?_;refine aa.back (IH (k+1) ⟨by omega,fun j y hj hy=>?_⟩ (by omega)) ?_
   ·rcases Nat.lt_or_eq_of_le (Nat.le_of_lt_succ hj)with h|h
    ·exact aX j y h hy
    ·subst h;rw[hx]at hy;cases hy;exact e
   exact sZ
 ·have aL:k=l.length:=by simp at h5;omega
  subst aL;refine gO F89 ?_;refine⟨-1,rfl,fun h=>absurd h (by decide),fun h=>?_⟩;obtain⟨j,hj⟩:=List.getElem?_of_mem h;exact absurd rfl (aX j v (List.getElem?_eq_some_iff.1 hj).1 hj)
theorem acr(l:List Text)(v:Text)(hl:l.length<=1000000):az E 45 [.sl (l.map .str),.str v] (· = .bool (decide (v∈l))):=by
 refine eP Tryz.func45 ?_
 with_reducible refine uS (acq l v hl) ?_
 rintro r ⟨n,rfl,hn⟩;refine gO Tryz.func45 ?_;rw[show decide (n>=0)=decide (v∈l) by rw[Bool.eq_iff_iff,decide_eq_true_eq,decide_eq_true_eq];exact hn]
theorem acs{α:Type}{l m:List α}{i j:Nat}{x y:α}(dA:i<j)(hs:i+j+1=l.length)(hm:m.length=l.length)(h1:∀ k,k<i\/j<k->m[k]?=l.reverse[k]?)(h2:∀ k,i<=k->k<=j->m[k]?=l[k]?)(hx:m[i]?=some x)(hy:m[j]?=some y):((m.set i y).set j x).length=l.length/\(∀ k,k<i+1\/j-1<k->((m.set i y).set j x)[k]?=l.reverse[k]?)/\(∀ k,i+1<=k->k<=j-1->((m.set i y).set j x)[k]?=l[k]?):=by
 have zZ:l[i]?=some x:=by rw[<- h2 i (Nat.le_refl _) (by omega)];exact hx
 have hly:l[j]?=some y:=by rw[<- h2 j (by omega) (Nat.le_refl _)];exact hy
 refine⟨by simp[hm],fun k hk=>?_,fun k h3 h4=>?_⟩
 ·by_cases e1:k=j
  ·subst e1;rw[List.getElem?_set_self (by simp;omega),List.getElem?_reverse (by omega),<- zZ]
   congr 1;omega
  ·rw[List.getElem?_set_ne (by omega)];by_cases e2:k=i
   ·subst e2;rw[List.getElem?_set_self (by omega),List.getElem?_reverse (by omega),<- hly]
    congr 1;omega
   ·rw[List.getElem?_set_ne (by omega)];exact h1 k (by omega)
 ·rw[List.getElem?_set_ne (by omega),List.getElem?_set_ne (by omega)];exact h2 k (by omega) (by omega)
theorem acv(l:List aG)(hl:l.length<=2147483647):aB E 46 [.arr 0 (54,2) (l.map aG.enc)] [.own 0 0] (fun a b=>a=.aK []/\b=[.arr 0 (54,2) (l.reverse.map aG.enc)]):=by
 by_cases h0:l=[]
 ·subst h0;refine aB.run ag (fn:=Tryz.f46) Tryz.func46 (body:=Tryz.f46.body.getD .skip) rfl (by decide) 2000 rfl ?_;(conv=>whnf);refine aa.uZ ?_;refine aa.run ag Tryz.func46 2000 ?_;(conv=>whnf);refine aP (by decide) ?_;refine gO Tryz.func46 ?_;exact⟨rfl,rfl⟩
 have hlp:=List.length_pos_iff.2 h0;refine aB.run ag (fn:=Tryz.f46) Tryz.func46 (body:=Tryz.f46.body.getD .skip) rfl (by decide) 2000 rfl ?_;(conv=>whnf);refine aa.loop (κ:=Nat × Nat × List aG) [2,3,7,8,9,10,11,12,13,14,15,16,17,18,19,20,21,22,23,24,25,26,27] (fun q=>[(0,.own 0 0),(2,.d (.int .i64 q.1)),(3,.d (.int .i64 q.2.1))]) (fun q=>[(0,.arr 0 (54,2) (q.2.2.map aG.enc))]) (fun q=>q.1+q.2.1+1=l.length/\q.1<=q.2.1+1/\q.2.2.length=l.length/\(∀ k,k<q.1\/q.2.1<k->q.2.2[k]?=l.reverse[k]?)/\(∀ k,q.1<=k->k<=q.2.1->q.2.2[k]?=l[k]?)) (fun q=>l.length-q.1) (0,l.length-1,l) ⟨by simp only;omega,by simp only;omega,rfl,fun k hk=>by simp only at hk;show l[k]?=_;rw[List.getElem?_eq_none (by omega),List.getElem?_eq_none (by simp;omega)],fun k _ _=>rfl⟩ ?_ ?_
 ·(conv=>whnf);repeat (first|exact trivial|(refine sI ?_;conv=>whnf))
  refine And.intro (congrArg (DV.int .i64) ((wrap64 (by simp<;>omega) (by simp<;>omega)).trans (by simp;omega))) ?_;exact sZ
 rintro⟨i,j,m⟩ ⟨hs,acw,hm,g1,g2⟩ IH;simp only at hs acw hm g1 g2;refine aa.head ag Tryz.func46 2000 ?_;(conv=>whnf);refine ar (fun h5=>?_) (fun h5=>?_)
 ·have dA:i<j:=by have:=of_decide_eq_true h5;simp only at this;omega
  obtain⟨x,hx⟩:=bd (l:=m) (k:=i) (by omega);obtain⟨y,hy⟩:=bd (l:=m) (k:=j) (by omega);obtain⟨k1,k2,k3⟩:=acs dA hs hm g1 g2 hx hy;obtain⟨L0,sc⟩:∃ L0,m.map aG.enc=L0:=⟨_,rfl⟩;obtain⟨L1,mZ⟩:∃ L1,L0.set i y.enc=L1:=⟨_,rfl⟩;have jB:L0.length=l.length:=by rw[<- sc,List.length_map,hm]
  have iL:L1.length=l.length:=by rw[<- mZ,List.length_set,jB]
  have a1:=aU (f:=aG.enc) hx;have a2:=aU (f:=aG.enc) hy;have b0:nb L0 (j:Int) y.enc:=sc ▸ a2;have b1:nb L1 (j:Int) y.enc:=⟨b0.1,by rw[<- mZ];simp only[Int.toNat_natCast];rw[List.getElem?_set_ne (by omega)];simpa using b0.2⟩;have b2:nb L0 (i:Int) x.enc:=sc ▸ a1;have Da:L1.set j x.enc=((m.set i y).set j x).map aG.enc:=by rw[<- mZ,<- sc,List.map_set,List.map_set]
  refine gO Tryz.func46 ?_;rw[sc];refine aa.aa1 ag bU [0,1,2,3,4,5,6,7,8,9,10,12,14] (fun h=>h=[.arr 0 (54,2) L0]\/h=[.arr 0 (54,2) L1]) (by kernel_rfl) (by kernel_rfl) (.inl rfl) ?_;refine dP.float (.own 0 0) rfl rfl (fun h' hh=>?_) ?_
  ·rcases hh with rfl|rfl<;>(refine aZ.run ag ?_;(conv=>whnf);exact⟨rfl,rfl⟩)
  (conv=>whnf);refine dP.float (.d (.int .i64 (i:Int))) rfl rfl (fun h' hh=>?_) ?_
  ·rcases hh with rfl|rfl<;>(refine aZ.run ag ?_;(conv=>whnf);exact⟨rfl,rfl⟩)
  (conv=>whnf);refine dP.float (.own 0 0) rfl rfl (fun h' hh=>?_) ?_
  ·rcases hh with rfl|rfl<;>(refine aZ.run ag ?_;(conv=>whnf);exact⟨rfl,rfl⟩)
  (conv=>whnf);refine dP.float (.d (.int .i64 (j:Int))) rfl rfl (fun h' hh=>?_) ?_
  ·rcases hh with rfl|rfl<;>(refine aZ.run ag ?_;(conv=>whnf);exact⟨rfl,rfl⟩)
  (conv=>whnf);refine dP.float (.own 0 0) rfl rfl (fun h' hh=>?_) ?_
  ·rcases hh with rfl|rfl<;>(refine aZ.run ag ?_;(conv=>whnf);exact⟨rfl,rfl⟩)
  (conv=>whnf);refine dP.float (.d (.int .i64 (j:Int))) rfl rfl (fun h' hh=>?_) ?_
  ·rcases hh with rfl|rfl<;>(refine aZ.run ag ?_;(conv=>whnf);exact⟨rfl,rfl⟩)
  (conv=>whnf);refine dP.float (.cO 0 0 j 0) rfl rfl (fun h' hh=>?_) ?_
  ·rcases hh with rfl|rfl<;>(refine aZ.run ag ?_;(conv=>whnf);refine bB ⟨by omega,by(first|rw[jB]|rw[iL]);omega⟩ ?_;exact⟨by rw[Int.toNat_natCast],rfl⟩)
  (conv=>whnf);refine dP.float (.d y.enc) rfl rfl (fun h' hh=>?_) ?_
  ·rcases hh with rfl|rfl
   ·refine aZ.run ag ?_;(conv=>whnf);refine aD (e:=y.enc) b0 rfl ?_;(conv=>whnf);exact⟨rfl,rfl⟩
   ·refine aZ.run ag ?_;(conv=>whnf);refine aD (e:=y.enc) b1 rfl ?_;(conv=>whnf);exact⟨rfl,rfl⟩
  (conv=>whnf);refine dP.float (.own 0 0) rfl rfl (fun h' hh=>?_) ?_
  ·rcases hh with rfl|rfl<;>(refine aZ.run ag ?_;(conv=>whnf);exact⟨rfl,rfl⟩)
  (conv=>whnf);refine dP.float (.d (.int .i64 (i:Int))) rfl rfl (fun h' hh=>?_) ?_
  ·rcases hh with rfl|rfl<;>(refine aZ.run ag ?_;(conv=>whnf);exact⟨rfl,rfl⟩)
  (conv=>whnf);refine dP.float (.cO 0 0 i 0) rfl rfl (fun h' hh=>?_) ?_
  ·rcases hh with rfl|rfl<;>(refine aZ.run ag ?_;(conv=>whnf);refine bB ⟨by omega,by(first|rw[jB]|rw[iL]);omega⟩ ?_;exact⟨by rw[Int.toNat_natCast],rfl⟩)
  (conv=>whnf);refine dP.op (.d x.enc) [.arr 0 (54,2) L0] rfl rfl ?_ (.inr (.inl rfl)) ?_
  ·refine aZ.run ag ?_;(conv=>whnf);refine aD (e:=x.enc) b2 rfl ?_;(conv=>whnf);exact⟨rfl,rfl⟩
  (conv=>whnf);refine dP.float (.cO 0 0 i 0) rfl rfl (fun h' hh=>?_) ?_
  ·rcases hh with rfl|rfl<;>(refine aZ.run ag ?_;(conv=>whnf);refine bB ⟨by omega,by(first|rw[jB]|rw[iL]);omega⟩ ?_;exact⟨by rw[Int.toNat_natCast],rfl⟩)
  (conv=>whnf);refine dP.op (.d .undef) [.arr 0 (54,2) L1] rfl rfl ?_ (.inr (.inr rfl)) ?_
  ·refine aZ.run ag ?_;(conv=>whnf);refine aD (e:=x.enc) b2 rfl ?_;(conv=>whnf);subst mZ;exact⟨rfl,rfl⟩
  (conv=>whnf);refine dP.float (.cO 0 0 j 0) rfl rfl (fun h' hh=>?_) ?_
  ·rcases hh with rfl|rfl<;>(refine aZ.run ag ?_;(conv=>whnf);refine bB ⟨by omega,by(first|rw[jB]|rw[iL]);omega⟩ ?_;exact⟨by rw[Int.toNat_natCast],rfl⟩)
  (conv=>whnf);refine dP.op (.d .undef) [.arr 0 (54,2) (L1.set j x.enc)] rfl rfl ?_ (.inl rfl) ?_
  ·refine aZ.run ag ?_;(conv=>whnf);refine aD (e:=y.enc) b1 rfl ?_;(conv=>whnf);exact⟨rfl,rfl⟩
  (conv=>whnf);refine dP.fin ?_;refine gO Tryz.func46 ?_;rw[Da];refine aa.back (IH (i+1,j-1,(m.set i y).set j x) ⟨by simp only;omega,by simp only;omega,k1,k2,k3⟩ (by simp only;omega)) ?_;(conv=>whnf);repeat (first|exact trivial|(refine sI ?_;conv=>whnf))
  refine And.intro (congrArg (DV.int .i64) ((wrap64 (by simp only;omega) (by simp only;omega)).trans (by simp only;omega))) ?_;exact sZ
 ·have dA:j<=i:=by have:=of_decide_eq_false h5;simp only at this;omega
  have he:m=l.reverse:=by
   apply List.ext_getElem?;intro k;by_cases hk:k<i\/j<k
   ·exact g1 k hk
   ·have e1:k=i:=by omega
    have e2:j=i:=by omega
    rw[g2 k (by omega) (by omega),List.getElem?_reverse (by omega)]
    congr 1;omega
  refine gO Tryz.func46 ?_;rw[he];exact⟨rfl,rfl⟩
theorem acx(v:bu)(z:Text)(hl:v.au.length<=1000000):aB E 44 [.cells [.d (.str z)]] [.d (oo v),.ptr 0 0] (fun a b=>a=.d (.bool (decide (z∈v.au)))/\b=[.cells [.d (.str z)]]):=by
 have c1:=acr v.au z hl;apply aB.jP
 case hk=>rfl
 refine aB.run ag (fn:=Tryz.f44) Tryz.func44 (body:=Tryz.f44.body.getD .skip) rfl (by decide) 2000 rfl ?_;(conv=>whnf);refine aj (c1) ?_;refine gO Tryz.func44 ?_;exact⟨rfl,rfl⟩
def si(V:List bu)(z:Text):Int:=match V.findIdx? (fun v=>decide (z∈v.au))with
 |some i=>(i:Int)
 |none => -1
theorem acy(V:List bu)(z:Text)(hV:∀ v∈V,v.au.length<=1000000)(hl:V.length<=2147483647):aB E 43 [.cells [.d (.str z)]] [.d (.sl (V.map oo)),.fn (.func 44) [] [.ptr 0 0]] (fun a b=>a=.d (.int .i64 (si V z))/\b=[.cells [.d (.str z)]]):=by
 refine aB.run ag (fn:=Tryz.f43) Tryz.func43 (body:=Tryz.f43.body.getD .skip) rfl (by decide) 2000 rfl ?_;(conv=>whnf);refine aa.loop (κ:=Nat) ([4,5]++rg 8 11) (fun k=>[(8,.d (.int .i64 k))]) (fun _=>[]) (fun k=>k<=V.length/\∀ j v,j<k->V[j]?=some v->z ∉ v.au) (fun k=>V.length-k) 0 ⟨Nat.zero_le _,fun j v h=>by omega⟩ ?_ ?_
 ·exact sZ
 rintro k ⟨hk,aX⟩ IH;refine aa.head ag F43 2000 ?_;(conv=>whnf);refine ar (fun h5=>?_) (fun h5=>?_)
 ·have ai:k<V.length:=by simpa using h5
  obtain⟨v,hv⟩:=bd ai;have c1:=acx v z (hV v (List.mem_of_getElem? hv));refine gO F43 ?_;refine aD (e:=oo v) (aU hv) rfl ?_;refine gO F43 ?_
  with_reducible refine bG (c1) ?_
  refine gO F43 ?_;by_cases hm:z∈v.au
  ·refine aJ (decide_eq_true hm) ?_;refine gO F43 ?_;have e:si V z=k:=by
    have:V.findIdx? (fun v=>decide (z∈v.au))=some k:=by
     rw[List.findIdx?_eq_some_iff_getElem];refine⟨ai,?_,fun j hj=>?_⟩
     ·have:=(List.getElem?_eq_some_iff.1 hv).2;rw[this];exact decide_eq_true hm
     ·have:=aX j V[j] hj (by simp);simpa using this
    rw[si,this]
   rw[e];exact⟨rfl,rfl⟩
  ·refine aP (decide_eq_false hm) ?_;refine gO F43 ?_;refine aa.back (IH (k+1) ⟨by omega,fun j u hj hu=>?_⟩ (by omega)) ?_
   ·rcases Nat.lt_or_eq_of_le (Nat.le_of_lt_succ hj)with h|h
    ·exact aX j u h hu
    ·subst h;rw[hv]at hu;cases hu;exact hm
   exact sZ
 ·have aL : k=V.length := by have : V.length <= k := by simpa using h5
                             omega
  subst aL;refine gO F43 ?_;have e:si V z = -1:=by
   have:V.findIdx? (fun v=>decide (z∈v.au))=none:=by
    rw[List.findIdx?_eq_none_iff];intro v hv;obtain⟨j,hj⟩:=List.getElem?_of_mem hv;exact decide_eq_false (aX j v (a7 hj) hj)
   rw[si,this]
  rw[e];exact⟨rfl,rfl⟩
theorem acz(w:cR)(s z:Text)(h:(eI w&&(Nm.valid s&&Nm.valid z))=true):tO w s z=(match (eY w.au s).find? (fun v=>decide (z∈v.au))with|some v=>(v.list,0)|none=>([],4)):=if_pos h
theorem acA{V:List bu}{z:Text}{v:bu}(h:V.find? (fun v=>decide (z∈v.au))=some v):∃ i:Nat,si V z=i/\V[i]?=some v:=by
 rw[List.find?_eq_some_iff_getElem]at h;obtain⟨h1,i,h2,h3,h4⟩:=h;refine⟨i,?_,by rw[<- h3];simp⟩;have:V.findIdx? (fun v=>decide (z∈v.au))=some i:=by
  rw[List.findIdx?_eq_some_iff_getElem];exact⟨h2,by rw[h3];exact h1,fun j hj=>by have:=h4 j hj;simpa using this⟩
 rw[si,this]
theorem acB{V:List bu}{z:Text}(h:V.find? (fun v=>decide (z∈v.au))=none):si V z = -1:=by
 have:V.findIdx? (fun v=>decide (z∈v.au))=none:=by
  rw[List.findIdx?_eq_none_iff];intro v hv;have:=List.find?_eq_none.1 h v hv
  simpa using this
 rw[si,this]
theorem En(w:cR)(s z:Text)(hf:w.Fits)(iU:s.length<=maxLen)(jV:z.length<=maxLen):az E 15 [w.enc,.str s,.str z] (· = .aK [.sl ((tO w s z).1.map aG.enc),.int .i64 (tO w s z).2]):=by
 have cw:=D2 w hf;have cs:=lL s iU;have cz:=lL z jV;have iq:eI w=false\/Nm.valid s=false\/Nm.valid z=false->tO w s z=([],1):=fun h=>by
  have:¬ (eI w&&(Nm.valid s&&Nm.valid z))=true:=by rcases h with h|h|h<;>simp[h]
  exact if_neg this
 cases h1:eI w
 ·rw[iq (.inl h1)];rw[h1]at cw;refine az.norm ?_;refine eP F15 ?_;refine aj (cw) ?_;refine gO F15 ?_;refine bq ?_;refine gO F15 ?_;refine bq ?_;refine gO F15 ?_;refine bq ?_;refine gO F15 ?_;rfl
 cases h2:Nm.valid s
 ·rw[iq (.inr (.inl h2))];rw[h1]at cw;rw[h2]at cs;refine az.norm ?_;refine eP F15 ?_;refine aj (cw) ?_;refine gO F15 ?_;refine aV ?_;refine gO F15 ?_;refine aj (cs) ?_;refine gO F15 ?_;refine bq ?_;refine gO F15 ?_;refine bq ?_;refine gO F15 ?_;rfl
 cases h3:Nm.valid z
 ·rw[iq (.inr (.inr h3))];rw[h1]at cw;rw[h2]at cs;rw[h3]at cz;refine az.norm ?_;refine eP F15 ?_;refine aj (cw) ?_;refine gO F15 ?_;refine aV ?_;refine gO F15 ?_;refine aj (cs) ?_;refine gO F15 ?_;refine aV ?_;refine gO F15 ?_;refine aj (cz) ?_;refine gO F15 ?_;refine bq ?_;refine gO F15 ?_;rfl
 rw[h1]at cw;rw[h2]at cs;rw[h3]at cz;rw[acz w s z (by simp[h1,h2,h3])];obtain⟨H,hl⟩:=vZ h1;have hu:=Bp H hl;have c1:=QB w hf.au H (by omega);have c2:=Rz w.au s hf.au H hu h2;have gd:=IY H s;have Bv:∀ v∈eY w.au s,_:=fun v hv=>D9 H hv;have B:=tI H s;have c3:=acy (eY w.au s) z (fun v hv=>by have:=(Bv v hv).2.1;omega) (by omega);generalize eY w.au s=V at *;generalize mB w.au=es at *;generalize iX w.au (nv w.au) w.au.length=rs at *;cases RI:V.find? (fun v=>decide (z∈v.au))with
 |none =>
  rw[acB RI]at c3;refine az.norm ?_;refine eP F15 ?_;refine aj (cw) ?_;refine gO F15 ?_;refine aV ?_;refine gO F15 ?_;refine aj (cs) ?_;refine gO F15 ?_;refine aV ?_;refine gO F15 ?_;refine aj (cz) ?_;refine gO F15 ?_;refine aV ?_;refine gO F15 ?_;refine w7 (ds:=[w.enc]) c1 ?_;rintro r b ⟨rfl,rfl⟩;refine gO F15 ?_
  with_reducible refine bG (c2) ?_
  refine gO F15 ?_
  with_reducible refine bG (c3) ?_
  refine gO F15 ?_;refine bq ?_;refine gO F15 ?_;rfl
 |some v =>
  obtain⟨i0,e0,Bn⟩:=acA RI;rw[e0]at c3;have fQ:=a7 Bn;refine eP F15 ?_;refine aj (cw) ?_;refine gO F15 ?_;refine aV ?_;refine gO F15 ?_;refine aj (cs) ?_;refine gO F15 ?_;refine aV ?_;refine gO F15 ?_;refine aj (cz) ?_;refine gO F15 ?_;refine aV ?_;refine gO F15 ?_;refine w7 (ds:=[w.enc]) c1 ?_;rintro r b ⟨rfl,rfl⟩;refine gO F15 ?_
  with_reducible refine bG (c2) ?_
  refine gO F15 ?_
  with_reducible refine bG (c3) ?_
  refine gO F15 ?_;refine aP (decide_eq_false (by omega)) ?_;(conv=>whnf);repeat ((fail_if_success (first|(refine aa.l9 10 (54,2) (by decide) rfl ?_)|fail));(refine aa.run ag F15 1 ?_);(conv=>whnf))
  refine aa.l9 10 (54,2) (by decide) rfl ?_;(conv=>whnf);refine gO F15 ?_;refine aa.loop (κ:=Nat × bu × List aG) [9,10,33,34,35,36,37,38,39,40,41,42,43,44,45,46,47,48,49,50,51] (fun q=>[(9,.d (.int .i64 q.1)),(10,.own 5 1)]) (fun q=>[(5,.arr 1 (54,2) (q.2.2.map aG.enc))]) (fun q=>V[q.1]?=some q.2.1/\v.list=q.2.1.list++q.2.2.reverse/\q.2.2.length+q.1<=i0) (fun q=>q.1) (i0,v,[]) ⟨Bn,by simp,by simp⟩ ?_ ?_
  ·(conv=>whnf);repeat (first|exact trivial|(refine sI ?_;conv=>whnf))
   refine And.intro rfl ?_;exact sZ
  rintro⟨i,u,L⟩ ⟨k1,k2,k3⟩ IH;simp only at k1 k2 k3;have hi:=a7 k1;refine aa.head ag F15 2000 ?_;(conv=>whnf);refine aD (e:=oo u) (aU k1) rfl ?_;refine gO F15 ?_;rcases B.back k1 with⟨q1,q2⟩|⟨b,u2,q1,q2,q3,q4⟩
  ·have c4:=acv L (by omega);rw[q2,List.nil_append]at k2;refine aP (decide_eq_false (by omega)) ?_;refine gO F15 ?_
   with_reducible refine bG (c4) ?_
   refine gO F15 ?_;show DV.aK [DV.sl (L.reverse.map aG.enc),DV.int .i64 0]=DV.aK [DV.sl (v.list.map aG.enc),DV.int .i64 0];rw[k2]
  ·refine aJ (decide_eq_true (by omega)) ?_;refine gO F15 ?_;refine aD (e:=oo u) (aU k1) rfl ?_;refine gO F15 ?_;refine bB ⟨by simp;omega,by simp[DV.cells]⟩ ?_;refine gO F15 ?_;refine aD (e:=oo u) (aU k1) rfl ?_;refine gO F15 ?_;refine aa.back (IH (b,u2,L++[u.bw]) ⟨q3,by rw[k2,q4];simp,by simp;omega⟩ q2) ?_;(conv=>whnf);repeat (first|exact trivial|(refine sI ?_;conv=>whnf))
   refine And.intro (by simp) ?_;exact sZ
theorem JE{G:List (Nat × DV)}{s:List AV}{a:Array UInt8}:bh G s (.const (.string ⟨a⟩)) (.d (.str a.toList)):=fun c x _ _=>by
 have h:=VD.str (bad:=c.bad) (w:=c.w) a.toList;rw[Array.toArray_toList]at h;exact .d _ _ h
theorem RL{w:cR}(hg:w.Good)(hf:wh w=true):w.Fits/\w.au.length<=20/\w.hints.length<=1000000/\∀ c∈w.au,c.aC.Fits/\c.aC.gV/\c.aC.Aj:=by
 simp only[wh,yj,Bool.and_eq_true,decide_eq_true_eq]at hf;obtain⟨⟨h1,h2⟩,⟨⟨h3,h4⟩,h5⟩,h6⟩:=hf;rw[List.take_of_length_le (by omega)]at h1 h2;obtain⟨g1,g2,g3,g4⟩:=hg;have hz:∀ c∈w.au,c.aC.Fits/\c.aC.gV/\c.aC.Aj:=fun c hc=>by
  have:=List.all_eq_true.1 h1 c hc;simp only[pr,Bool.and_eq_true]at this;exact X4 (g2.2 c hc).2 this.1
 exact⟨⟨fun x hx=>(g1.2 x hx).1,⟨g3.1,by omega,fun d hd=>(g3.2.2.2.2 d hd).1⟩,g4.1,fun c hc=>(hz c hc).1⟩,h3,by omega,hz⟩
def yu(s:Text)(k:Int)(d:Datum):DV := .agg [.str s,.int .i64 k,.int .i64 9,.sl [d.enc],.aW]
theorem JF(s:Text)(k:Int)(d:Datum):az E 66 [.str s,.int .i64 k,d.enc] (· = yu s k d):=by
 obtain⟨x,y,z⟩:=d;show az E _ [.str s,.int .i64 k,DV.agg [.str x,.int .i64 y,.int .i64 z]] _;refine eP Tryz.func66 ?_;rfl
theorem acI(s h:Text):aB E 67 [.cells [.d (.fn (.func 66))]] [.d (.str s),.d (.str h),.ptr 0 0] (fun a b=>a=.d (yu s 2 ⟨h,0,0⟩)/\b=[.cells [.d (.fn (.func 66))]]):=by
 have c1:=JF s 2 ⟨h,0,0⟩;apply aB.jP
 case hk=>rfl
 unfold yu at c1 ⊢;refine aB.run ag (fn:=Tryz.f67) Tryz.func67 (body:=Tryz.f67.body.getD .skip) rfl (by decide) 1 rfl ?_;(conv=>whnf);(conv=>whnf);repeat ((fail_if_success (first|(refine aa.Eo rfl rfl (bg rfl) (qp (bg rfl) qo (bg rfl)) c1 ?_)|fail));(refine aa.run ag Tryz.func67 1 ?_);(conv=>whnf))
 refine aa.Eo rfl rfl (bg rfl) (qp (bg rfl) qo (bg rfl)) c1 ?_;(conv=>whnf);refine gO Tryz.func67 ?_;exact⟨rfl,rfl⟩
theorem acJ(s:Text):aB E 68 [.cells [.d (.fn (.func 66))]] [.d (.str s),.ptr 0 0] (fun a b=>a=.d (yu s 4 ⟨[],1,0⟩)/\b=[.cells [.d (.fn (.func 66))]]):=by
 have c1:=JF s 4 ⟨[],1,0⟩;apply aB.jP
 case hk=>rfl
 unfold yu at c1 ⊢;refine aB.run ag (fn:=Tryz.f68) Tryz.func68 (body:=Tryz.f68.body.getD .skip) rfl (by decide) 1 rfl ?_;(conv=>whnf);(conv=>whnf);repeat ((fail_if_success (first|(refine aa.Eo rfl rfl (bg rfl) (qp (bg rfl) qo (bg rfl)) c1 ?_)|fail));(refine aa.run ag Tryz.func68 1 ?_);(conv=>whnf))
 refine aa.Eo rfl rfl (bg rfl) (qp (bg rfl) qo (bg rfl)) c1 ?_;(conv=>whnf);refine gO Tryz.func68 ?_;exact⟨rfl,rfl⟩
def qC(s:Text)(k:Int)(d:Datum):Signed:=⟨⟨s,k,9,[d]⟩,[]⟩
def il:cR:=⟨[⟨[97,46,110,115],1,0⟩,⟨[104,46,121],2,5⟩,⟨[103,46,121],3,4⟩,⟨[105],4,9⟩],
 [⟨0, ⟨[46], [qC [46] 2 ⟨[97, 46, 110, 115], 0, 0⟩, qC [46] 4 ⟨[], 1, 0⟩, qC [120] 2 ⟨[104, 46, 121], 0, 0⟩, qC [121] 2 ⟨[103, 46, 121], 0, 0⟩]⟩⟩,
  ⟨1, ⟨[120], [qC [120] 2 ⟨[104, 46, 121], 0, 0⟩, qC [120] 4 ⟨[], 1, 0⟩, qC [108, 46, 120] 3 ⟨[116, 46, 120], 0, 0⟩, qC [116, 46, 120] 1 ⟨[], 7, 0⟩]⟩⟩,
  ⟨2, ⟨[121], [qC [121] 2 ⟨[103, 46, 121], 0, 0⟩, qC [121] 4 ⟨[], 1, 0⟩]⟩⟩],
 ⟨[46],6,0,[⟨[],1,1⟩]⟩,[1]⟩
theorem acK:az E 29 [] (· = il.enc):=by
 have c1:=acI;have c2:=acJ;have c3:=JF;unfold yu at c1 c2 c3;refine az.kW ?_;refine az.run ag (fn:=Tryz.f29) Tryz.func29 (body:=Tryz.f29.body.getD .skip) rfl (by decide) 1 ?_;(conv=>whnf);(conv=>whnf);repeat ((fail_if_success (first|(refine aa.RJ (b:=1) (off:=0) rfl rfl ?_)|fail));(refine aa.run ag F29 1 ?_);(conv=>whnf))
 refine aa.RJ (b:=1) (off:=0) rfl rfl ?_;(conv=>whnf);refine gO F29 ?_
 with_reducible refine bG (c1 [46] [97,46,110,115]) ?_
 refine gO F29 ?_
 with_reducible refine bG (c2 [46]) ?_
 refine gO F29 ?_
 with_reducible refine bG (c1 [120] [104,46,121]) ?_
 refine gO F29 ?_
 with_reducible refine bG (c1 [121] [103,46,121]) ?_
 refine gO F29 ?_;refine aa.LM ag bU 12 2000 (by kernel_rfl) ?_;(conv=>whnf);refine cg.kq (ah:=[1]) (c1 [120] [104,46,121]) rfl rfl (bg rfl) (mw JE JE) (by decide) (by simp) rfl rfl rfl ?_;refine gD ?_;refine cg.kq (ah:=[1]) (c2 [120]) rfl rfl (bg rfl) (kv JE) (by decide) (by simp) rfl rfl rfl ?_;refine gD ?_;refine bl (c3 [108,46,120] 3 ⟨[116,46,120],0,0⟩) ?_;refine gD ?_;refine bl (c3 [116,46,120] 1 ⟨[],7,0⟩) ?_;refine gD ?_;refine gS ?_;refine gO F29 ?_
 with_reducible refine bG (c1 [121] [103,46,121]) ?_
 refine gO F29 ?_
 with_reducible refine bG (c2 [121]) ?_
 refine gO F29 ?_;kernel_rfl
theorem acL:il.Fits:=by
 exact⟨by decide,⟨by decide,by decide,by decide⟩,by decide,fun p hp=>by
  have h:∀ p∈il.au,p.aC.ad.length<=100/\∀ s∈p.aC.ab,s.set.name.length<=100/\s.set.data.length<=100/\∀ d∈s.set.data,d.text.length<=100:=by decide
  obtain⟨h1,h2⟩:=h p hp;refine⟨Nat.le_trans h1 (by decide),fun s hs=>?_⟩;obtain⟨h3,h4,h5⟩:=h2 s hs
  exact⟨Nat.le_trans h3 (by decide),by omega,fun d hd=>Nat.le_trans (h5 d hd) (by decide)⟩⟩
theorem acM:sd il [116,46,120]=[[46],[120],[121]]:=by kernel_rfl
theorem acN:sd il [113,46,121]=[[46],[121]]:=by kernel_rfl
theorem RM:pq il [116,46,120]=0:=by kernel_rfl
theorem acO:pq il [113,46,121]=0:=by kernel_rfl
theorem acP:pq il [113]=0:=by kernel_rfl
theorem acQ:Br il [116,46,120]=[0,4,5]:=by kernel_rfl
theorem acR:Br il [113]=[0]:=by kernel_rfl
theorem acS:tO il [116,46,120] [121]=([⟨[120],2⟩],0):=by kernel_rfl
theorem acT:tO il [116,46,120] [120]=([],0):=by kernel_rfl
theorem acU:tO il [108,46,120] [121]=([⟨[120],2⟩],0):=by kernel_rfl
theorem acV:tO il [113,46,121] [120]=([],4):=by kernel_rfl
theorem acW:az E 9 [] (· = .bool true):=by
 have hf:=acL;have b1:([116,46,120]:Text).length<=maxLen:=by decide
 have b2:([113,46,121]:Text).length<=maxLen:=by decide
 have b3:([113]:Text).length<=maxLen:=by decide
 have b4:([108,46,120]:Text).length<=maxLen:=by decide
 have b5:([121]:Text).length<=maxLen:=by decide
 have b6:([120]:Text).length<=maxLen:=by decide
 have c1:=JA il [116,46,120] hf b1;have c2:=JA il [113,46,121] hf b2;have c3:=RG il [116,46,120] hf b1;have c4:=RG il [113] hf b3;have c5:=En il [116,46,120] [121] hf b1 b5;have c6:=En il [116,46,120] [120] hf b1 b6;have c7:=En il [108,46,120] [121] hf b4 b5;have c8:=En il [113,46,121] [120] hf b2 b6;rw[acM,RM]at c1;rw[acN,acO]at c2;rw[acQ,RM]at c3;rw[acR,acP]at c4;rw[acS]at c5;rw[acT]at c6;rw[acU]at c7;rw[acV]at c8;have d1:=PJ [[46],[120],[121]] [[46],[120],[121]] (by decide);have d2:=PJ [[46],[121]] [[46],[121]] (by decide);have d3:=aaF [⟨[120],2⟩] [⟨[120],2⟩] (by decide);have c0:=acK;generalize il=w at *;refine eP F9 ?_;refine aj (c0) ?_;refine gO F9 ?_;refine aj (c1) ?_;refine gO F9 ?_;refine aj (c2) ?_;refine gO F9 ?_;refine aj (c3) ?_;refine gO F9 ?_;refine aj (c4) ?_;refine gO F9 ?_;refine aj (c5) ?_;refine gO F9 ?_;refine aj (c6) ?_;refine gO F9 ?_;refine aj (c7) ?_;refine gO F9 ?_;refine aj (c8) ?_;refine gO F9 ?_;refine aJ (by decide) ?_;refine gO F9 ?_;refine aJ (by decide) ?_;refine gO F9 ?_;refine aJ (by decide) ?_;refine gO F9 ?_;refine aJ (by decide) ?_;refine gO F9 ?_;refine aJ (by decide) ?_;refine gO F9 ?_;refine aJ (by decide) ?_;refine gO F9 ?_;refine aJ (by decide) ?_;refine gO F9 ?_;refine aJ (by decide) ?_;refine gO F9 ?_;refine aj (d1) ?_;refine gO F9 ?_;refine aJ (by decide) ?_;refine gO F9 ?_;refine aj (d2) ?_;refine gO F9 ?_;refine aJ (by decide) ?_;refine gO F9 ?_;refine aJ (by decide) ?_;refine gO F9 ?_;refine aD (e := .int .i64 0) ⟨by decide,rfl⟩ rfl ?_;refine gO F9 ?_;refine aJ (by decide) ?_;refine gO F9 ?_;refine aD (e := .int .i64 4) ⟨by decide,rfl⟩ rfl ?_;refine gO F9 ?_;refine aJ (by decide) ?_;refine gO F9 ?_;refine aD (e := .int .i64 5) ⟨by decide,rfl⟩ rfl ?_;refine gO F9 ?_;refine aJ (by decide) ?_;refine gO F9 ?_;refine aJ (by decide) ?_;refine gO F9 ?_;refine aD (e := .int .i64 0) ⟨by decide,rfl⟩ rfl ?_;refine gO F9 ?_;refine aJ (by decide) ?_;refine gO F9 ?_;refine aj (d3) ?_;refine gO F9 ?_;refine aJ (by decide) ?_;refine gO F9 ?_;refine aJ (by decide) ?_;refine gO F9 ?_;refine aj (d3) ?_;refine gO F9 ?_;simp
theorem acX(w:cR)(s:Text)(hg:w.Good)(hs:s.length<=maxLen):az E 19 [w.enc,.str s] (· = .bool ((wh w&&eI w)&&Nm.valid s)):=by
 have c1:=acC w;have c2:=fU s hs;cases h1:wh w
 ·rw[h1]at c1;refine eP F19 ?_;refine aj (c1) ?_;refine gO F19 ?_;refine aV ?_;refine gO F19 ?_;refine aV ?_;refine gO F19 ?_;rfl
 obtain⟨hf,hk,hh,-⟩:=RL hg h1;have c3:=aag w hf hh;rw[h1]at c1;cases h2:eI w
 ·rw[h2]at c3;refine eP F19 ?_;refine aj (c1) ?_;refine gO F19 ?_;refine bq ?_;refine gO F19 ?_;refine aj (c3) ?_;refine gO F19 ?_;refine aV ?_;refine gO F19 ?_;rfl
 rw[h2]at c3;refine eP F19 ?_;refine aj (c1) ?_;refine gO F19 ?_;refine bq ?_;refine gO F19 ?_;refine aj (c3) ?_;refine gO F19 ?_;refine bq ?_;refine gO F19 ?_;refine aj (c2) ?_;refine gO F19 ?_;rfl
theorem acY{L:List Text}{n:Int}{r:DV}(h:r=.aK [qB L,.int .i64 n]):norm r=.aK [.sl (L.map .str),.int .i64 n]:=by
 subst h;unfold qB;split
 ·rename_i e;subst e;rfl
 ·rfl
theorem acZ(w:cR)(s:Text)(hf:w.Fits)(iU:s.length<=maxLen):az E 11 [w.enc,.str s] (· = .aK [.sl ((sd w s).map .str),.int .i64 (pq w s)]):=az.norm ((JA w s hf iU).mono fun _ h=>acY h)
theorem ac0{l:List aH}{s:Text}(H:dY l)(hl:l.length<=20):(ik l s).length<=1000000:=by
 rw[ik,<- Q3];refine Nat.le_trans (Q6 fun z hz=>(Q5 H (s:=s) (i:=(eY l s).length) z (by rw[List.take_length];exact hz)).1) ?_;have:(l.flatMap fun p=>p.aC.ab.map fun s=>s.set.name).length<=l.length*20000:=Bo fun p hp=>by simp;exact(kY (H p hp)).len
 have:=Nat.mul_le_mul_right 20000 hl;simp only[tM,List.length_cons];omega
theorem ac1{w:cR}{s:Text}(hl:w.au.length<=20):(sd w s).length<=1000000:=by
 unfold sd;split
 ·rename_i h;simp only[Bool.and_eq_true]at h;exact ac0 (vZ h.1).1 hl
 ·simp
def wi(l:List aH)(z:Text):Bool:=decide (ky l z<0)
def wj(w:cR)(v:bu):Bool:=decide (qx w ⟨v.name,1⟩=34)
theorem RN{l:List aH}{z:Text}:wi l z=true↔eB l z=none:=by
 have ai:=(yh (l:=l) (ad:=z) (n:=l.length)).1;rw[wi,decide_eq_true_eq];unfold ky;rcases vU (l:=l) (ad:=z) l.length with⟨h1,-⟩|⟨k,q,h1,h2⟩
 ·rw[I8 (by omega)];simp;omega
 ·rw[D3 h1 h2.at_];simp;omega
theorem RO{α:Type}{f:α->Bool}{l:List α}{k:Nat}{x:α}(h:l[k]?=some x):(l.take (k+1)).any f=((l.take k).any f||f x):=by
 rw[ey h,List.any_append];simp
theorem ac2{w:cR}{s:Text}(hw:eI w=true)(hs:Nm.valid s=true):(eY w.au s).any (wj w)=(ik w.au s).any (wi w.au):=by
 obtain⟨H,hl⟩:=vZ hw;have B:=tI H s;have bQ:=P7 H hs
 have T:=Zs (DO H) B (fun t ht=>by
  obtain⟨v,hv,rfl⟩:=List.mem_map.1 ht
  exact⟨Bg (bQ v hv),Bf (bQ v hv)⟩)
 rw[Bool.eq_iff_iff,List.any_eq_true,List.any_eq_true];constructor
 ·rintro⟨v,hv,hd⟩;have hq:dV ⟨v.name,1⟩=true:=by simp[dV,bQ v hv]
  rw[wj,decide_eq_true_eq,qx,hw,hq]at hd;obtain⟨z,hz,hn⟩:=T.1 ⟨v.name,List.mem_map.2 ⟨v,hv,rfl⟩,hd⟩;exact⟨z,r8.2 hz,RN.2 hn⟩
 ·rintro⟨z,hz,hm⟩;obtain⟨t,ht,hd⟩:=T.2 ⟨z,r8.1 hz,RN.1 hm⟩;obtain⟨v,hv,rfl⟩:=List.mem_map.1 ht;have hq:dV ⟨v.name,1⟩=true:=by simp[dV,bQ v hv]
  refine⟨v,hv,?_⟩;rw[wj,decide_eq_true_eq,qx,hw,hq];exact hd
theorem ac3(w:cR)(s:Text)(hg:w.Good)(hs:s.length<=maxLen):az E 8 [w.enc,.str s] (· = .bool true):=by
 have c0:=acW;have c1:=acX w s hg hs;cases h0:((wh w&&eI w)&&Nm.valid s)
 ·rw[h0]at c1;refine eP F8 ?_;refine aj (c0) ?_;refine gO F8 ?_;refine aj (c1) ?_;refine gO F8 ?_;repeat' (first|with_reducible(first|refine cY ?_|refine cN ?_|refine ar (fun _=>?_) (fun _=>?_))|refine gA F8 ?_|refine gB ?_|refine gC ?_|with_reducible rfl)
 rw[h0]at c1;have RP:=h0;simp only[Bool.and_eq_true]at RP;obtain⟨⟨h1,h2⟩,h3⟩:=RP;obtain⟨hf,hk,hh,-⟩:=RL hg h1;have hv:(eI w&&Nm.valid s)=true:=by rw[h2,h3];rfl
 obtain⟨H,hl⟩:=vZ h2;have d1:=acZ w s hf hs;have hZ:sd w s=ik w.au s:=if_pos hv;have hn:pq w s=0:=if_pos hv;have r9:=ac1 (s:=s) hk;rw[hn,hZ]at d1;rw[hZ]at r9;have d2:=aaU w s hf.au H (by omega) (Bp H hl) h3;have bQ:=P7 H h3;have Bv:∀ v∈eY w.au s,_:=fun v hv=>D9 H hv;have Jc:=ac2 h2 h3;have gd:=IY H s;have js:=Bp H hl;generalize eY w.au s=V at *;generalize ik w.au s=zs at *;refine eP F8 ?_;refine aj (c0) ?_;refine gO F8 ?_;refine aj (c1) ?_;refine gO F8 ?_;refine aV ?_;refine gO F8 ?_;refine aj (d1) ?_;refine gO F8 ?_;refine aP (by decide) ?_;refine gO F8 ?_;refine aa.loop (κ:=Nat) ([8,10]++rg 32 13) (fun k=>[(32,.d (.int .i64 k)),(8,.d (.bool ((zs.take k).any (wi w.au))))]) (fun _=>[]) (fun k=>k<=zs.length) (fun k=>zs.length-k) 0 (Nat.zero_le _) ?_ ?_
 ·(conv=>whnf);repeat (first|exact trivial|(refine sI ?_;conv=>whnf))
  refine And.intro (by simp) ?_;exact sZ
 intro k nT IH;refine aa.head ag F8 2000 ?_;(conv=>whnf);refine ar (fun h5=>?_) (fun h5=>?_)
 ·have ai:k<zs.length:=by simpa using h5
  obtain⟨z,hz⟩:=bd ai;have bj:=RO (f:=wi w.au) hz;have d3:=I4 w.au z H (by omega);have Bx:wi w.au z=decide (ky w.au z<0):=rfl;generalize (zs.take k).any (wi w.au)=b at bj ⊢;refine gO F8 ?_;refine aD (e := .str z) (aU hz) rfl ?_;refine gO F8 ?_;cases b
  ·refine aV ?_;refine gO F8 ?_;refine aj (d3) ?_;refine gO F8 ?_;refine aa.back (IH (k+1) (by omega) (by omega)) ?_;(conv=>whnf);repeat (first|exact trivial|(refine sI ?_;conv=>whnf))
   refine And.intro (by rw[bj,Bx,Bool.false_or]) ?_;exact sZ
  ·refine bq ?_;refine gO F8 ?_;refine aa.back (IH (k+1) (by omega) (by omega)) ?_;(conv=>whnf);repeat (first|exact trivial|(refine sI ?_;conv=>whnf))
   refine And.intro (by rw[bj,Bool.true_or]) ?_;exact sZ
 have aL:zs.length<=k:=by simpa using h5
 rw[List.take_of_length_le aL,<- Jc];refine gO F8 ?_;refine aj (d2) ?_;refine gO F8 ?_;refine aa.loop (κ:=Nat) ([4,11,13,14,15]++rg 49 21) (fun k=>[(49,.d (.int .i64 k)),(11,.d (.bool ((V.take k).any (wj w))))]) (fun _=>[]) (fun k=>k<=V.length) (fun k=>V.length-k) 0 (Nat.zero_le _) ?_ ?_
 ·(conv=>whnf);repeat (first|exact trivial|(refine sI ?_;conv=>whnf))
  refine And.intro (by simp) ?_;exact sZ
 intro k nT IH;refine aa.head ag F8 2000 ?_;(conv=>whnf);refine ar (fun h5=>?_) (fun h5=>?_)
 ·have ai:k<V.length:=by simpa using h5
  obtain⟨v,JG⟩:=bd ai;have RQ:=List.mem_of_getElem? JG;have I3:=bQ v RQ;have adO:=dF I3;have bj:=RO (f:=wj w) JG;have d3:=aao w ⟨v.name,1⟩ hf (mQ (show v.name.length<=2147483648 by omega));have Bx:wj w v=decide (qx w ⟨v.name,1⟩=34):=rfl;generalize (V.take k).any (wj w)=b at bj ⊢;generalize qx w ⟨v.name,1⟩=f at d3 Bx;generalize ym w ⟨v.name,1⟩=a at d3;have ha:=aaY JG (Bv v RQ).1;have hY:qA v.list=.aW\/∃ L,qA v.list=.sl L:=by
   unfold qA;split
   ·exact .inl rfl
   ·exact .inr ⟨_,rfl⟩
  generalize qA v.list=Y at ha hY;rcases hY with rfl|⟨L,rfl⟩
  ·refine gO F8 ?_;refine aD ha rfl ?_;refine gO F8 ?_;refine aj (d3) ?_;refine gO F8 ?_;cases b
   ·refine aV ?_;refine gO F8 ?_;by_cases g:f=33
    ·refine aJ (by simpa using g) ?_;refine gO F8 ?_
     with_reducible rfl
    ·refine aP (by simpa using g) ?_;refine gO F8 ?_;refine aa.back (IH (k+1) (by omega) (by omega)) ?_;(conv=>whnf);repeat (first|exact trivial|(refine sI ?_;conv=>whnf))
     refine And.intro (by rw[bj,Bx,Bool.false_or];exact congrArg DV.bool (by rw[Bool.eq_iff_iff];simp)) ?_;exact sZ
   ·refine bq ?_;refine gO F8 ?_;by_cases g:f=33
    ·refine aJ (by simpa using g) ?_;refine gO F8 ?_
     with_reducible rfl
    ·refine aP (by simpa using g) ?_;refine gO F8 ?_;refine aa.back (IH (k+1) (by omega) (by omega)) ?_;(conv=>whnf);repeat (first|exact trivial|(refine sI ?_;conv=>whnf))
     refine And.intro (by rw[bj,Bool.true_or]) ?_;exact sZ
  ·refine gO F8 ?_;refine aD ha rfl ?_;refine gO F8 ?_;refine aj (d3) ?_;refine gO F8 ?_;cases b
   ·refine aV ?_;refine gO F8 ?_;by_cases g:f=33
    ·refine aJ (by simpa using g) ?_;refine gO F8 ?_
     with_reducible rfl
    ·refine aP (by simpa using g) ?_;refine gO F8 ?_;refine aa.back (IH (k+1) (by omega) (by omega)) ?_;(conv=>whnf);repeat (first|exact trivial|(refine sI ?_;conv=>whnf))
     refine And.intro (by rw[bj,Bx,Bool.false_or];exact congrArg DV.bool (by rw[Bool.eq_iff_iff];simp)) ?_;exact sZ
   ·refine bq ?_;refine gO F8 ?_;by_cases g:f=33
    ·refine aJ (by simpa using g) ?_;refine gO F8 ?_
     with_reducible rfl
    ·refine aP (by simpa using g) ?_;refine gO F8 ?_;refine aa.back (IH (k+1) (by omega) (by omega)) ?_;(conv=>whnf);repeat (first|exact trivial|(refine sI ?_;conv=>whnf))
     refine And.intro (by rw[bj,Bool.true_or]) ?_;exact sZ
 ·have Bb:V.length<=k:=by simpa using h5
  rw[List.take_of_length_le Bb];refine gO F8 ?_;refine bq ?_;refine gO F8 ?_;simp
theorem ac4(w:cR)(s:Text)(g0:w.Good)(g1:s.length<=maxLen):az E 8 [w.enc,.str s] (· = .bool true):=ac3 w s g0 g1
end Go.Proofs.YtcmnpelmmekdkaaGreatDoor.P
end
