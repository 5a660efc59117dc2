/- Several texts of mine, one behind the other. Conditions: as each says. -/
import Derived.Test.YtajnanldmhpeaaaGreatDoorZO2
import Derived.Test.YtajnanldmhpeaaaGreatDoorZN1
set_option linter.unusedVariables false
set_option linter.unusedSimpArgs false
section
namespace Go.Proofs.YtajnanldmhpeaaaGreatDoor.P
open Go Go.Eng
set_option maxRecDepth 100000
set_option maxHeartbeats 4000000
theorem cloneInt_o (l:List DV) (hl:l.length≤2147483648) (hc:∀ e∈l,e.cells.length=1):ACalls E 70 [] [.d (.sl l)] (fun a b=>a = .own 0 1∧b=[.arr 1 (3,1) l]):=by
 refine ACalls.run E_ok (fn:=Tryz.f70) Tryz.func70 (body:=Tryz.f70.body.getD .skip) rfl (by decide) 2000 rfl ?_;(conv=>whnf);refine AWL.nilTest E_ok rfl rfl rfl rfl (ev_at rfl) (fun b hb=>?_);cases b
 ·refine gO Tryz.func70 ?_;refine caseB_false ?_;refine gO Tryz.func70 ?_;refine need_intro ⟨by simp; omega,hc⟩ ?_;refine gO Tryz.func70 ?_;exact ⟨rfl,rfl⟩
 ·obtain rfl:=hb rfl;refine gO Tryz.func70 ?_;refine caseB_true ?_;(conv=>whnf);refine AWL.run E_ok Tryz.func70 1 ?_;(conv=>whnf);refine AWL.run E_ok Tryz.func70 1 ?_;(conv=>whnf);refine AWL.run E_ok Tryz.func70 1 ?_;(conv=>whnf);refine AWL.run E_ok Tryz.func70 1 ?_;(conv=>whnf);refine AWL.adoptG 1 2 (3,1) (by decide) rfl ?_;refine gO Tryz.func70 ?_;exact ⟨rfl,rfl⟩
theorem clonePlaced_o (l:List DV) (hl:l.length≤2147483648) (hc:∀ e∈l,e.cells.length=3):ACalls E 105 [] [.d (.sl l)] (fun a b=>a = .own 0 1∧b=[.arr 1 (79,3) l]):=by
 refine ACalls.run E_ok (fn:=Tryz.f105) Tryz.func105 (body:=Tryz.f105.body.getD .skip) rfl (by decide) 2000 rfl ?_;(conv=>whnf);refine AWL.nilTest E_ok rfl rfl rfl rfl (ev_at rfl) (fun b hb=>?_);cases b
 ·refine gO Tryz.func105 ?_;refine caseB_false ?_;refine gO Tryz.func105 ?_;refine need_intro ⟨by simp; omega,hc⟩ ?_;refine gO Tryz.func105 ?_;exact ⟨rfl,rfl⟩
 ·obtain rfl:=hb rfl;refine gO Tryz.func105 ?_;refine caseB_true ?_;(conv=>whnf);refine AWL.run E_ok Tryz.func105 1 ?_;(conv=>whnf);refine AWL.run E_ok Tryz.func105 1 ?_;(conv=>whnf);refine AWL.run E_ok Tryz.func105 1 ?_;(conv=>whnf);refine AWL.run E_ok Tryz.func105 1 ?_;(conv=>whnf);refine AWL.adoptG 1 2 (79,3) (by decide) rfl ?_;refine gO Tryz.func105 ?_;exact ⟨rfl,rfl⟩
theorem copyZone_p (z:Zone) (hf:z.Short):PCalls E 106 [z.enc] (· = z.enc):=by
 obtain ⟨apex,l⟩:=z;obtain ⟨hl,he⟩:=hf;simp only at hl he;have hcl:∀ e∈l.map Signed.enc,e.cells.length=5:=fun e h=>by
  obtain ⟨x,_,rfl⟩:=List.mem_map.1 h;rfl
 show PCalls E _ [DV.agg [.str apex,.sl (l.map Signed.enc)]] _;by_cases h:l=[]
 ·subst h;show PCalls E _ [DV.agg [.str apex,.sl []]] _;refine eP Tryz.func106 ?_
  with_reducible refine callP_eq (cloneSigned_p [] (by simp) (by simp)) ?_
  refine gO Tryz.func106 ?_;refine AWL.unroll ?_;refine AWL.run E_ok Tryz.func106 2000 ?_;(conv=>whnf);refine caseB_no (by simp) ?_;refine gO Tryz.func106 ?_;rfl
 ·refine eP Tryz.func106 ?_;refine callP_own (cloneSigned_a (l.map Signed.enc) (by simpa using h) (by simpa using hl) hcl) rfl ?_;refine gO Tryz.func106 ?_;refine AWL.loop (κ:=Nat) ([3,4]++rg 12 26) (fun k=>[(12,.d (.int .i64 k))]) (fun k=>[(2,.arr 1 (129,5) (l.map Signed.enc))]) (fun k=>k≤l.length) (fun k=>l.length - k) 0 (Nat.zero_le _) ?_ ?_
  ·(conv=>whnf);repeat (first | exact trivial | (refine sI ?_; conv=>whnf))
  intro k hk IH;refine AWL.head E_ok Tryz.func106 2000 ?_;(conv=>whnf);refine caseB_split (fun h5=>?_) (fun h5=>?_)
  ·have hlt:k<l.length:=by simpa using h5
   obtain ⟨x,hx⟩:=some_of_lt hlt;obtain ⟨q1,q2⟩:=he x (List.mem_of_getElem? hx);have hset1:(l.map Signed.enc).set (k:Int).toNat (DV.agg [.str x.set.name,.int .i64 x.set.type,.int .i64 x.set.life,.sl (x.set.data.map Datum.enc),encSigs x.sigs])=l.map Signed.enc:=sets_next hx;have hset2:(l.map Signed.enc).set (k:Int).toNat (DV.agg [.str x.set.name,.int .i64 x.set.type,.int .i64 x.set.life,encData x.set.data,.sl (x.sigs.map Sig.enc)])=l.map Signed.enc:=sets_next hx;have hb:0≤(k:Int)∧(k:Int)<((l.map Signed.enc).length:Int):=⟨by omega,by simp; omega⟩;refine gO Tryz.func106 ?_;refine need_intro hb ?_;refine gO Tryz.func106 ?_;refine elemP_at (e:=x.enc) (at_map hx) rfl ?_;refine gO Tryz.func106 ?_
   with_reducible refine callP_eq (cloneDatum_p (x.set.data.map Datum.enc) (by simpa using q1) (fun e h=>by obtain ⟨d,_,rfl⟩:=List.mem_map.1 h; simp [DV.cells])) ?_
   refine gO Tryz.func106 ?_;refine elemP_at (e:=x.enc) (at_map hx) rfl ?_;refine gO Tryz.func106 ?_;rw [hset1];refine elemP_at (e:=x.enc) (at_map hx) rfl ?_;refine gO Tryz.func106 ?_
   with_reducible refine callP_eq (cloneSig_p (x.sigs.map Sig.enc) (by simpa using q2) (fun e h=>by obtain ⟨d,_,rfl⟩:=List.mem_map.1 h; simp [DV.cells])) ?_
   refine gO Tryz.func106 ?_;refine elemP_at (e:=x.enc) (at_map hx) rfl ?_;refine gO Tryz.func106 ?_;rw [hset2];refine gO Tryz.func106 ?_;refine AWL.back (IH (k+1) (by omega) (by omega)) ?_;(conv=>whnf);repeat (first | exact trivial | (refine sI ?_; conv=>whnf))
  ·refine gO Tryz.func106 ?_
   with_reducible rfl
theorem placed_same {l:List Placed} {i:Nat} {x:Placed} (h:l[i]? = some x):(l.map Placed.enc).set i x.enc=l.map Placed.enc:=by
 apply List.ext_getElem?;intro j;rw [List.getElem?_set];split
 ·rename_i e;subst e;have hlt:=lt_of_getElem? h;rw [if_pos (by simpa using hlt),List.getElem?_map,h];rfl
 ·rfl
theorem steps_same {l:List Step} {i:Nat} {x:Step} (h:l[i]? = some x):(l.map Step.enc).set i x.enc=l.map Step.enc:=by
 apply List.ext_getElem?;intro j;rw [List.getElem?_set];split
 ·rename_i e;subst e;have hlt:=lt_of_getElem? h;rw [if_pos (by simpa using hlt),List.getElem?_map,h];rfl
 ·rfl
def CopyQ (p:Progress) (a:AV) (b:List Box):Prop:=a = .agg [.own 3 0,.own 2 1,.d (.bool p.paused),.d (.bool p.over)]∧b=[.cells [.own 3 0,.own 2 1,.d (.bool p.paused),.d (.bool p.over)],.cells [.own 3 0,.own 2 1,.d (.bool p.paused),.d (.bool p.over)],.arr 1 (3,1) (p.done.map (.int .i64)),.arr 0 (45,2) (p.steps.map Step.enc)]
theorem copyOf_a (p:Progress) (hl:p.steps.length≤1000000) (hd:p.done.length≤1000000) (he:∀ s∈p.steps,s.stage.puts.length≤1000000∧∀ x∈s.stage.puts,x.zone.Short):ACalls E 52 [] [.d p.enc] (CopyQ p):=by
 obtain ⟨L,dn,pa,ov⟩:=p;simp only at hl hd he;show ACalls E _ [] [.d (DV.agg [.sl (L.map Step.enc),.sl (dn.map (.int .i64)),.bool pa,.bool ov])] _;have hcl:∀ e∈L.map Step.enc,e.cells.length=2:=fun e h=>by
  obtain ⟨x,_,rfl⟩:=List.mem_map.1 h;rfl
 refine ACalls.run E_ok (fn:=Tryz.f52) Tryz.func52 (body:=Tryz.f52.body.getD .skip) rfl (by decide) 2000 rfl ?_;(conv=>whnf);refine callP_own (cloneInt_o (dn.map (.int .i64)) (by simp; omega) (fun e h=>by obtain ⟨d,_,rfl⟩:=List.mem_map.1 h; simp [DV.cells])) rfl ?_;refine gO Tryz.func52 ?_;refine need_intro ⟨by omega,by omega,by simp; omega⟩ ?_;refine gO Tryz.func52 ?_;refine AWL.copyAny E_ok rfl rfl ?_;(conv=>whnf);refine need_intro ⟨rfl,hcl⟩ ?_;have ecopy:(L.map Step.enc).take (List.replicate ((L.map Step.enc).length:Int).toNat (DV.agg [DV.int IntKind.i64 0,DV.nilsl])).length++(List.replicate ((L.map Step.enc).length:Int).toNat (DV.agg [DV.int IntKind.i64 0,DV.nilsl])).drop (L.map Step.enc).length=L.map Step.enc:=by
  simp;exact List.take_of_length_le (by simp)
 rw [ecopy];refine gO Tryz.func52 ?_;clear ecopy;refine AWL.loop (κ:=Nat) ([4,5,6]++rg 21 33) (fun k=>[(21,.d (.int .i64 k)),(3,.own 3 0)]) (fun k=>[(3,.arr 0 (45,2) (L.map Step.enc))]) (fun k=>k≤L.length) (fun k=>L.length - k) 0 (Nat.zero_le _) ?_ ?_
 ·(conv=>whnf);repeat (first | exact trivial | (refine sI ?_; conv=>whnf))
 intro k hk IH;refine AWL.head E_ok Tryz.func52 2000 ?_;(conv=>whnf);refine caseB_split (fun h5=>?_) (fun h5=>?_)
 ·have hlt:k<L.length:=by simpa using h5
  obtain ⟨x,hx⟩:=some_of_lt hlt;obtain ⟨q1,q2⟩:=he x (List.mem_of_getElem? hx);have hb:0≤(k:Int)∧(k:Int)<((L.map Step.enc).length:Int):=⟨by omega,by simp; omega⟩;have hset:(L.map Step.enc).set (k:Int).toNat (DV.agg [.int .i64 x.time,.sl (x.stage.puts.map Placed.enc)])=L.map Step.enc:=steps_same hx;refine gO Tryz.func52 ?_;refine need_intro hb ?_;refine gO Tryz.func52 ?_;refine elemP_at (e:=x.enc) (at_map hx) rfl ?_;refine gO Tryz.func52 ?_;refine callP_own (clonePlaced_o (x.stage.puts.map Placed.enc) (by simp; omega) (fun e h=>by obtain ⟨d,_,rfl⟩:=List.mem_map.1 h; rfl)) rfl ?_;refine gO Tryz.func52 ?_;refine AWL.loop (κ:=Nat) ([26,27,28,30,31]++[6,33,34,35,36,37,38,39,40,41,42,43,44,45,46]) (fun j=>[(33,.d (.int .i64 j)),(5,.own 4 1)]) (fun j=>[(4,.arr 1 (79,3) (x.stage.puts.map Placed.enc))]) (fun j=>j≤x.stage.puts.length) (fun j=>x.stage.puts.length - j) 0 (Nat.zero_le _) ?_ ?_
  ·(conv=>whnf);repeat (first | exact trivial | (refine sI ?_; conv=>whnf))
  intro j hj JH;refine AWL.head E_ok Tryz.func52 2000 ?_;(conv=>whnf);refine caseB_split (fun h6=>?_) (fun h6=>?_)
  ·have hjlt:j<x.stage.puts.length:=by simpa using h6
   obtain ⟨y,hy⟩:=some_of_lt hjlt;have q3:=q2 y (List.mem_of_getElem? hy);have hb2:0≤(j:Int)∧(j:Int)<((x.stage.puts.map Placed.enc).length:Int):=⟨by omega,by simp; omega⟩;have hset2:(x.stage.puts.map Placed.enc).set (j:Int).toNat (DV.agg [.int .i64 y.host,.str y.zone.apex,.sl (y.zone.sets.map Signed.enc)])=x.stage.puts.map Placed.enc:=placed_same hy;refine gO Tryz.func52 ?_;refine need_intro hb2 ?_;refine gO Tryz.func52 ?_;refine elemP_at (e:=y.enc) (at_map hy) rfl ?_;refine gO Tryz.func52 ?_
   with_reducible refine callP_eq (copyZone_p y.zone q3) ?_
   refine gO Tryz.func52 ?_;refine need_intro hb2 ?_;refine gO Tryz.func52 ?_;refine elemP_at (e:=y.enc) (at_map hy) rfl ?_;refine gO Tryz.func52 ?_;rw [hset2];refine gO Tryz.func52 ?_;refine AWL.back (JH (j+1) (by omega) (by omega)) ?_;(conv=>whnf);repeat (first | exact trivial | (refine sI ?_; conv=>whnf))
  ·refine AWL.freeze 4 ?_;(conv=>whnf);refine gO Tryz.func52 ?_;refine need_intro hb ?_;refine gO Tryz.func52 ?_;refine elemP_at (e:=x.enc) (at_map hx) rfl ?_;refine gO Tryz.func52 ?_;rw [hset];refine gO Tryz.func52 ?_;refine AWL.back (IH (k+1) (by omega) (by omega)) ?_;(conv=>whnf);repeat (first | exact trivial | (refine sI ?_; conv=>whnf))
 ·refine gO Tryz.func52 ?_;exact ⟨rfl,rfl⟩
end Go.Proofs.YtajnanldmhpeaaaGreatDoor.P
end
section
namespace Go.Proofs.YtajnanldmhpeaaaGreatDoor.P
open Go Go.Eng
set_option maxRecDepth 100000
set_option maxHeartbeats 4000000
def offTo (n k:Nat) (by_:Int) (l:List Step):List Step:=l.mapIdx fun i s=>if i<n then s else if i<n+k then offS by_ s else s
theorem offTo_len {n k:Nat} {by_:Int} {l:List Step}:(offTo n k by_ l).length=l.length:=by simp [offTo]
theorem offTo_zero {n:Nat} {by_:Int} {l:List Step}:offTo n 0 by_ l=l:=by
 apply List.ext_getElem?;intro i;rw [offTo,List.getElem?_mapIdx];cases l[i]? with
 |none=>rfl
 |some x =>
  simp;intro h1 h2;omega
theorem offTo_all {n k:Nat} {by_:Int} {l:List Step} (h:l.length≤n+k):offTo n k by_ l=offL n by_ l:=by
 apply List.ext_getElem?;intro i;rw [offTo,offL,List.getElem?_mapIdx,List.getElem?_mapIdx];cases hx:l[i]? with
 |none=>rfl
 |some x =>
  have:=lt_of_getElem? hx;simp only [Option.map_some];split
  ·rfl
  ·rw [if_pos (by omega)]
theorem offTo_at {n k:Nat} {by_:Int} {l:List Step} {x:Step} (h:l[n+k]? = some x):(offTo n k by_ l)[n+k]? = some x:=by
 rw [offTo,List.getElem?_mapIdx,h];simp
theorem offTo_next {n k:Nat} {by_:Int} {l:List Step} {x:Step} (h:l[n+k]? = some x):((offTo n k by_ l).map Step.enc).set (n+k) (offS by_ x).enc=(offTo n (k+1) by_ l).map Step.enc:=by
 apply List.ext_getElem?;intro j;have hlt:=lt_of_getElem? h;rw [List.getElem?_set];split
 ·rename_i e;subst e;rw [if_pos (by simp [offTo]; omega),List.getElem?_map,offTo,List.getElem?_mapIdx,h];simp only [Option.map_some];rw [if_neg (by omega),if_pos (by omega)]
 ·rw [List.getElem?_map,List.getElem?_map,offTo,offTo,List.getElem?_mapIdx,List.getElem?_mapIdx];cases l[j]? with
  |none=>rfl
  |some y =>
   simp only [Option.map_some];by_cases h1:j<n
   ·simp [h1]
   ·by_cases h2:j<n+k
    ·rw [if_neg h1,if_pos h2,if_neg h1,if_pos (by omega)]
    ·rw [if_neg h1,if_neg h2,if_neg h1,if_neg (by omega)]
theorem putOff_a (l:List Step) (dn:List Int) (pa ov:Bool) (by_:Int) (hl:l.length≤1000000) (hd:dn.length≤l.length) :
  ACalls E 59 [.cells [.own 1 0,.own 2 0,.d (.bool pa),.d (.bool ov)],.arr 0 (45,2) (l.map Step.enc),.arr 0 (3,1) (dn.map (.int .i64))] [.ptr 0 0,.d (.int .i64 by_)]
   (fun a b=>a = .tup []∧b=[.cells [.own 1 0,.own 2 0,.d (.bool pa),.d (.bool ov)],.arr 0 (45,2) ((offL dn.length by_ l).map Step.enc),.arr 0 (3,1) (dn.map (.int .i64))]):=by
 refine ACalls.run E_ok (fn:=Tryz.f59) Tryz.func59 (body:=Tryz.f59.body.getD .skip) rfl (by decide) 2000 rfl ?_;(conv=>whnf);have hw:IntKind.i64.wrap (((l.map Step.enc).length:Int) - ((dn.map (DV.int .i64)).length:Int))=((l.length - dn.length:Nat):Int):=by
  rw [List.length_map,List.length_map,wrap64 (by omega) (by omega)];omega
 refine AWL.loop (κ:=Nat) ([5]++rg 18 18) (fun k=>[(18,.d (.int .i64 k))]) (fun k=>[(1,.arr 0 (45,2) ((offTo dn.length k by_ l).map Step.enc))]) (fun k=>dn.length+k≤l.length) (fun k=>l.length - k) 0 hd ?_ ?_
 ·(conv=>whnf);repeat (first | exact trivial | (refine sI ?_; conv=>whnf))
  refine And.intro (by rw [offTo_zero]) ?_;(conv=>whnf);repeat (first | exact trivial | (refine sI ?_; conv=>whnf))
 intro k hk IH;refine AWL.head E_ok Tryz.func59 2000 ?_;(conv=>whnf);refine caseB_split (fun h5=>?_) (fun h5=>?_)
 ·have hlt:dn.length+k<l.length:=by
   have:=of_decide_eq_true h5;rw [hw] at this;omega
  obtain ⟨x,hx⟩:=some_of_lt hlt;have hw2:IntKind.i64.wrap (((dn.map (DV.int .i64)).length:Int)+(k:Int))=((dn.length+k:Nat):Int):=by
   rw [List.length_map,wrap64 (by omega) (by omega)];omega
  have hb:0≤IntKind.i64.wrap (((dn.map (DV.int .i64)).length:Int)+(k:Int))∧IntKind.i64.wrap (((dn.map (DV.int .i64)).length:Int)+(k:Int))<(((offTo dn.length k by_ l).map Step.enc).length:Int):=by
   rw [hw2,List.length_map,offTo_len];omega
  have hat:At1 ((offTo dn.length k by_ l).map Step.enc) (((IntKind.i64.wrap (((dn.map (DV.int .i64)).length:Int)+(k:Int))).toNat:Nat):Int) x.enc:=by
   rw [hw2];exact at_map (offTo_at hx)
  have hset:((offTo dn.length k by_ l).map Step.enc).set (IntKind.i64.wrap (((dn.map (DV.int .i64)).length:Int)+(k:Int))).toNat (DV.agg [.int .i64 (IntKind.i64.wrap (x.time+by_)),.sl (x.stage.puts.map Placed.enc)])=(offTo dn.length (k+1) by_ l).map Step.enc:=by
   rw [hw2];exact offTo_next hx
  refine gO Tryz.func59 ?_;refine need_intro hb ?_;refine gO Tryz.func59 ?_;refine elemP_at (e:=x.enc) hat rfl ?_;refine gO Tryz.func59 ?_;refine need_intro hb ?_;refine gO Tryz.func59 ?_;refine elemP_at (e:=x.enc) hat rfl ?_;refine gO Tryz.func59 ?_;rw [hset];refine gO Tryz.func59 ?_;refine AWL.back (IH (k+1) (by omega) (by omega)) ?_;(conv=>whnf);repeat (first | exact trivial | (refine sI ?_; conv=>whnf))
 ·have hge:l.length≤dn.length+k:=by
   have:=of_decide_eq_false h5;rw [hw] at this;omega
  rw [offTo_all hge];refine gO Tryz.func59 ?_;exact ⟨rfl,rfl⟩
theorem nil_args {f:FuncId} {ds:List DV} {Q:AV→List Box→Prop} (H:ACalls E f [] ((ds.map Eng.norm).map .d) Q):ACalls E f [] (ds.map .d) Q:=by
 unfold ACalls at H ⊢;refine ⟨H.1,H.2.1,fun c vs h1 h2 h3=>H.2.2 c vs h1 h2 ⟨by simpa using h3.1,fun j x v hx hv=>?_⟩⟩;rw [List.getElem?_map,List.getElem?_map] at hx;cases hd:ds[j]? with
 |none=>rw [hd] at hx; simp at hx
 |some d =>
  rw [hd] at hx;simp only [Option.map_some,Option.some.injEq] at hx;subst hx;have:=h3.2 j (.d d) v (by rw [List.getElem?_map,hd]; rfl) hv;cases this with
  |d _ _ hvd=>exact .d _ _ (norm_vd hvd)
theorem begin_p (h:History) (l:List Step) (hf:h.Fits) (hk1:h.copies.length≤1000000) (hs:Steps.Fits l) (he:∀ s∈l,∀ x∈s.stage.puts,x.zone.Short):PCalls E 18 [h.enc,.sl (l.map Step.enc)] (· = PE.enc (beginR h l)):=by
 have hv0:=svalid_p h l hf hk1 hs;have hcp:=copyOf_a ⟨l,[],false,false⟩ hs.few (by simp) (fun s hs2=>⟨(hs.each s hs2).few,he s hs2⟩);have hcp2:ACalls E 52 [] [.d (DV.agg [.sl (l.map Step.enc),.nilsl,.bool false,.bool false])] (CopyQ ⟨l,[],false,false⟩):=by
  refine nil_args (ds:=[DV.agg [.sl (l.map Step.enc),.nilsl,.bool false,.bool false]]) ?_;have e:([DV.agg [.sl (l.map Step.enc),.nilsl,.bool false,.bool false]].map Eng.norm)=[(⟨l,[],false,false⟩:Progress).enc]:=by
   rfl
  rw [e];exact hcp
 unfold beginR;obtain ⟨hosts,copies,anchor,hints,drift,fin⟩:=h;refine PCalls.norm ?_;show PCalls E _ [DV.agg [.sl (hosts.map Host.enc),.sl (copies.map Copy.enc),.str anchor.name,.int .i64 anchor.type,.int .i64 anchor.life,.sl (anchor.data.map Datum.enc),.sl (hints.map (.int .i64)),.int .i64 drift,.int .i64 fin],_] _;generalize validS ⟨hosts,copies,anchor,hints,drift,fin⟩ l=b at *;refine eP Tryz.func18 ?_
 with_reducible refine callP_eq (hv0) ?_
 refine gO Tryz.func18 ?_;cases b
 ·refine caseB_true ?_;refine gO Tryz.func18 ?_;rfl
 ·refine caseB_false ?_;refine gO Tryz.func18 ?_;refine callP_own (hcp2) rfl ?_;refine gO Tryz.func18 ?_;rfl
theorem pause_p (p:Progress) (hd:p.steps.length≤1000000) (he:∀ s∈p.steps,s.stage.puts.length≤1000000∧∀ x∈s.stage.puts,x.zone.Short):PCalls E 28 [p.enc] (· = PE.enc (pauseR p)):=by
 have hform:=inForm42_p p;have hcp:=copyOf_a p hd;have hF:formB p=true→p.done.length≤p.steps.length:=fun h=>by simp [formB] at h; exact h.2
 unfold pauseR;obtain ⟨a,d,pa,ov⟩:=p;simp only at hd he hF hcp;generalize formB ⟨a,d,pa,ov⟩=F at *;simp only at hform ⊢;refine PCalls.norm ?_;show PCalls E _ [DV.agg [.sl (a.map Step.enc),.sl (d.map (.int .i64)),.bool pa,.bool ov]] _;refine eP Tryz.func28 ?_
 with_reducible refine callP_eq (hform) ?_
 refine gO Tryz.func28 ?_;cases F
 ·refine caseB_true ?_;refine gO Tryz.func28 ?_;rfl
 ·have hdl:=hF rfl;refine caseB_false ?_;cases pa
  ·cases ov
   ·refine gO Tryz.func28 ?_;refine caseB_false ?_;refine gO Tryz.func28 ?_;refine caseB_false ?_;refine gO Tryz.func28 ?_;refine callP_own (hcp (by omega) he) rfl ?_;refine gO Tryz.func28 ?_;rfl
   ·refine gO Tryz.func28 ?_;refine caseB_false ?_;refine gO Tryz.func28 ?_;refine caseB_true ?_;refine gO Tryz.func28 ?_;rfl
  ·refine gO Tryz.func28 ?_;refine caseB_true ?_;refine gO Tryz.func28 ?_;refine caseB_true ?_;refine gO Tryz.func28 ?_;rfl
end Go.Proofs.YtajnanldmhpeaaaGreatDoor.P
end
section
namespace Go.Proofs.YtajnanldmhpeaaaGreatDoor.P
open Go Go.Eng
set_option maxRecDepth 100000
set_option maxHeartbeats 4000000
theorem resume_p (p:Progress) (by_:Int) (hd:p.steps.length≤1000000) (he:∀ s∈p.steps,s.stage.puts.length≤1000000∧∀ x∈s.stage.puts,x.zone.Short):PCalls E 29 [p.enc,.int .i64 by_] (· = PE.enc (resumeR p by_)):=by
 have hform:=inForm42_p p;have hcp:=copyOf_a p hd;generalize hT:resumeR p by_=T;unfold resumeR at hT;obtain ⟨a,d,pa,ov⟩:=p;have hF:formB ⟨a,d,pa,ov⟩=true→a.length≤400∧d.length≤a.length:=fun h=>by simpa [formB] using h
 simp only at hcp hT hd he;generalize formB ⟨a,d,pa,ov⟩=F at *;refine PCalls.norm ?_;show PCalls E _ [DV.agg [.sl (a.map Step.enc),.sl (d.map (.int .i64)),.bool pa,.bool ov],_] _;refine eP Tryz.func29 ?_
 with_reducible refine callP_eq (hform) ?_
 refine gO Tryz.func29 ?_;cases F
 ·have e:T=(zeroP,1):=by rw [← hT]; simp
  subst e;repeat' (first | with_reducible refine cY ?_ | with_reducible refine cN ?_ | with_reducible refine caseB_split (fun _=>?_) (fun _=>?_) | refine gA Tryz.func29 ?_ | refine gB ?_ | refine gC ?_ | with_reducible rfl)
  rfl
 ·obtain ⟨hl,hdl⟩:=hF rfl;refine caseB_false ?_;refine gO Tryz.func29 ?_;refine caseB_split (fun h1=>?_) (fun h1=>?_)
  ·have e:T=(zeroP,1):=by
    rw [← hT,if_neg];have:=of_decide_eq_true h1;simp;omega
   subst e;repeat' (first | with_reducible refine cY ?_ | with_reducible refine cN ?_ | with_reducible refine caseB_split (fun _=>?_) (fun _=>?_) | refine gA Tryz.func29 ?_ | refine gB ?_ | refine gC ?_ | with_reducible rfl)
   rfl
  ·refine gO Tryz.func29 ?_;refine caseB_split (fun h2=>?_) (fun h2=>?_)
   ·have e:T=(zeroP,1):=by
     rw [← hT,if_neg];have:=of_decide_eq_true h2;simp;omega
    subst e;repeat' (first | with_reducible refine cY ?_ | with_reducible refine cN ?_ | with_reducible refine caseB_split (fun _=>?_) (fun _=>?_) | refine gA Tryz.func29 ?_ | refine gB ?_ | refine gC ?_ | with_reducible rfl)
    rfl
   ·have h1:=of_decide_eq_false h1;have h2:=of_decide_eq_false h2;rw [if_pos (by simp; omega)] at hT;refine gO Tryz.func29 ?_;cases pa
    ·have e:T=(zeroP,6):=by rw [← hT]; simp
     subst e;repeat' (first | with_reducible refine cY ?_ | with_reducible refine cN ?_ | with_reducible refine caseB_split (fun _=>?_) (fun _=>?_) | refine gA Tryz.func29 ?_ | refine gB ?_ | refine gC ?_ | with_reducible rfl)
     rfl
    ·cases ov
     ·simp only [Bool.not_true,Bool.or_false,Bool.false_eq_true,if_false] at hT;refine caseB_false ?_;refine gO Tryz.func29 ?_;refine caseB_false ?_;refine gO Tryz.func29 ?_;have hw:IntKind.i64.wrap (10000000 - by_)=10000000 - by_:=wrap64 (by omega) (by omega);have hcl:∀ e∈a.map Step.enc,e.cells.length=2:=fun e h=>by
       obtain ⟨x,_,rfl⟩:=List.mem_map.1 h;rfl
      have hE:List.drop ((some (((d.map (DV.int .i64)).length:Nat):Int)).getD 0).toNat (List.take ((none:Option Int).getD (((a.map Step.enc).length:Nat):Int)).toNat (a.map Step.enc))=(a.drop d.length).map Step.enc:=by
       simp [List.map_drop];rw [List.take_of_length_le (by simp)]
      refine need_intro ⟨by simp,by simpa using hdl,by simp,hcl⟩ ?_;rw [hE];have hgl:(a.drop d.length).length=a.length - d.length:=by simp
      generalize hG:a.drop d.length=G at *;refine gO Tryz.func29 ?_;refine AWL.loop (κ:=Nat) ([5,7]++rg 36 11) (fun k=>[(36,.d (.int .i64 k))]) (fun _=>[]) (fun k=>k≤G.length∧(G.take k).any (fun s=>decide (s.time>10000000 - by_))=false) (fun k=>G.length - k) 0 ⟨by omega,by simp⟩ ?_ ?_
      ·(conv=>whnf);repeat (first | exact trivial | (refine sI ?_; conv=>whnf))
      intro k hk IH;refine AWL.head E_ok Tryz.func29 2000 ?_;(conv=>whnf);refine caseB_split (fun h5=>?_) (fun h5=>?_)
      ·have hlt:k<G.length:=by
        have:=of_decide_eq_true h5;simp at this;omega
       obtain ⟨x,hx⟩:=some_of_lt hlt;refine gO Tryz.func29 ?_;refine elemP_at (e:=x.enc) (at_map hx) rfl ?_;refine gO Tryz.func29 ?_;refine caseB_split (fun h6=>?_) (fun h6=>?_)
       ·have h6:=of_decide_eq_true h6;have e:T=(zeroP,36):=by rw [← hT,if_pos (any_no hx (by simp; omega))]
        subst e;refine gO Tryz.func29 ?_;rfl
       ·have h6:=of_decide_eq_false h6;refine gO Tryz.func29 ?_;refine AWL.back (IH (k+1) ⟨by omega,any_next hk.2 hx (by simp; omega)⟩ (by omega)) ?_;(conv=>whnf);repeat (first | exact trivial | (refine sI ?_; conv=>whnf))
      ·have hge:G.length≤k:=by
        have:=of_decide_eq_false h5;simp at this;omega
       have hno:=hk.2;rw [List.take_of_length_le hge] at hno;rw [if_neg (by rw [hno]; simp)] at hT;subst hT;clear IH;refine gO Tryz.func29 ?_;refine callP_own (hcp (by omega) he) rfl ?_;refine gO Tryz.func29 ?_
       with_reducible refine callS_eq (putOff_a a d false false by_ hd hdl) ?_
       refine gO Tryz.func29 ?_;rfl
     ·have e:T=(zeroP,6):=by rw [← hT]; simp
      subst e;repeat' (first | with_reducible refine cY ?_ | with_reducible refine cN ?_ | with_reducible refine caseB_split (fun _=>?_) (fun _=>?_) | refine gA Tryz.func29 ?_ | refine gB ?_ | refine gC ?_ | with_reducible rfl)
      rfl
def doneTo (k:Nat) (dn:List Int) (st:List Step):List Step:=(st.take dn.length).mapIdx fun i s=>if i<k then { s with time:=dn.getD i 0 } else s
theorem doneTo_len {k:Nat} {dn:List Int} {st:List Step} (h:dn.length≤st.length):(doneTo k dn st).length=dn.length:=by simp [doneTo,Nat.min_eq_left h]
theorem doneTo_zero {dn:List Int} {st:List Step}:doneTo 0 dn st=st.take dn.length:=by
 apply List.ext_getElem?;intro i;rw [doneTo,List.getElem?_mapIdx];cases (st.take dn.length)[i]? <;> simp
theorem doneTo_at {k:Nat} {dn:List Int} {st:List Step} {x:Step} (hk:k<dn.length) (h:st[k]? = some x):(doneTo k dn st)[k]? = some x:=by
 rw [doneTo,List.getElem?_mapIdx,List.getElem?_take,if_pos hk,h];simp
theorem doneTo_all {dn:List Int} {st:List Step} {k:Nat} (hk:dn.length≤k) (h:dn.length≤st.length):doneTo k dn st=doneL dn st:=by
 apply List.ext_getElem?;intro i;rw [doneTo,doneL,List.getElem?_mapIdx,List.getElem?_zipWith,List.getElem?_take];by_cases hi:i<dn.length
 ·obtain ⟨x,hx⟩:=some_of_lt (l:=st) (k:=i) (by omega);obtain ⟨t,ht⟩:=some_of_lt hi;rw [if_pos hi,hx,ht];simp [List.getD,ht];omega
 ·rw [if_neg hi,List.getElem?_eq_none (l:=dn) (by omega)];rfl
theorem doneTo_next {k:Nat} {dn:List Int} {st:List Step} {x:Step} {t:Int} (h:st[k]? = some x) (ht:dn[k]? = some t):((doneTo k dn st).map Step.enc).set k (Step.enc { x with time:=t })=(doneTo (k+1) dn st).map Step.enc:=by
 have hk:=lt_of_getElem? ht;have hk2:=lt_of_getElem? h;apply List.ext_getElem?;intro j;rw [List.getElem?_set];split
 ·rename_i e;subst e;rw [if_pos (by simp [doneTo]; omega),List.getElem?_map,doneTo,List.getElem?_mapIdx,List.getElem?_take,if_pos hk,h];simp [List.getD,ht]
 ·rw [List.getElem?_map,List.getElem?_map,doneTo,doneTo,List.getElem?_mapIdx,List.getElem?_mapIdx];cases (st.take dn.length)[j]? with
  |none=>rfl
  |some y =>
   simp only [Option.map_some];by_cases h1:j<k
   ·rw [if_pos h1,if_pos (by omega)]
   ·rw [if_neg h1,if_neg (by omega)]
theorem real_p (h:History) (p:Progress) (hf:h.Fits) (hk1:h.copies.length≤1000000) (hs:Steps.Fits p.steps):PCalls E 21 [h.enc,p.enc] (· = .tup [(realH h p).enc,.int .i64 (realN h p)]):=by
 have hv0:=valid42_p h p hf hk1 hs;have hap:=apply_p h (doneL p.done p.steps) hf hk1 (done_fits hs);generalize hN:realN h p=N;generalize hH:realH h p=H;unfold realN at hN;unfold realH at hH;have hlen:validP h p=true→p.steps.length≤400∧p.done.length≤p.steps.length:=fun h=>⟨(validS_iff.1 (validP_iff.1 h).1).2.1,(validP_iff.1 h).2.1⟩;generalize validP h p=V at *;obtain ⟨hosts,copies,anchor,hints,drift,fin⟩:=h;obtain ⟨st,dn,pa,ov⟩:=p;simp only at hap hN hH hlen;refine PCalls.norm ?_;show PCalls E _ [DV.agg [.sl (hosts.map Host.enc),.sl (copies.map Copy.enc),.str anchor.name,.int .i64 anchor.type,.int .i64 anchor.life,.sl (anchor.data.map Datum.enc),.sl (hints.map (.int .i64)),.int .i64 drift,.int .i64 fin],DV.agg [.sl (st.map Step.enc),.sl (dn.map (.int .i64)),.bool pa,.bool ov]] _;refine eP Tryz.func21 ?_
 with_reducible refine callP_eq (hv0) ?_
 refine gO Tryz.func21 ?_;cases V
 ·rw [if_neg (by simp)] at hN hH;subst hN;subst hH;refine caseB_true ?_;refine gO Tryz.func21 ?_;rfl
 ·obtain ⟨hl1,hl2⟩:=hlen rfl;rw [if_pos rfl] at hN hH;subst hN;subst hH;refine caseB_false ?_;refine gO Tryz.func21 ?_;have hcl:∀ e∈st.map Step.enc,e.cells.length=2:=fun e h=>by
   obtain ⟨x,_,rfl⟩:=List.mem_map.1 h;rfl
  refine need_intro ⟨by omega,by omega,by simp; omega⟩ ?_;refine gO Tryz.func21 ?_;refine AWL.copyAny E_ok rfl rfl ?_;(conv=>whnf);refine need_intro ⟨rfl,hcl⟩ ?_;have ecopy:(st.map Step.enc).take (List.replicate ((dn.map (DV.int .i64)).length:Int).toNat (DV.agg [DV.int IntKind.i64 0,DV.nilsl])).length++(List.replicate ((dn.map (DV.int .i64)).length:Int).toNat (DV.agg [DV.int IntKind.i64 0,DV.nilsl])).drop (st.map Step.enc).length=(st.take dn.length).map Step.enc:=by
   simp [List.map_take];omega
  rw [ecopy];refine gO Tryz.func21 ?_;clear ecopy;refine AWL.loop (κ:=Nat) ([7,8]++rg 25 11) (fun k=>[(25,.d (.int .i64 k)),(6,.own 3 0)]) (fun k=>[(3,.arr 0 (45,2) ((doneTo k dn st).map Step.enc))]) (fun k=>k≤dn.length) (fun k=>dn.length - k) 0 (Nat.zero_le _) ?_ ?_
  ·(conv=>whnf);repeat (first | exact trivial | (refine sI ?_; conv=>whnf))
   refine And.intro (by rw [doneTo_zero]) ?_;(conv=>whnf);repeat (first | exact trivial | (refine sI ?_; conv=>whnf))
  intro k hk IH;refine AWL.head E_ok Tryz.func21 2000 ?_;(conv=>whnf);refine caseB_split (fun h5=>?_) (fun h5=>?_)
  ·have hlt:k<dn.length:=by simpa using h5
   obtain ⟨t,ht⟩:=some_of_lt hlt;obtain ⟨x,hx⟩:=some_of_lt (l:=st) (k:=k) (by omega);have hb:0≤(k:Int)∧(k:Int)<(((doneTo k dn st).map Step.enc).length:Int):=⟨by omega,by rw [List.length_map,doneTo_len hl2]; omega⟩;have hset:((doneTo k dn st).map Step.enc).set (k:Int).toNat (DV.agg [.int .i64 t,.sl (x.stage.puts.map Placed.enc)])=(doneTo (k+1) dn st).map Step.enc:=doneTo_next hx ht;refine gO Tryz.func21 ?_;refine elemP_at (e := .int .i64 t) (at_map ht) rfl ?_;refine gO Tryz.func21 ?_;refine need_intro hb ?_;refine gO Tryz.func21 ?_;refine elemP_at (e:=x.enc) (at_map (doneTo_at hlt hx)) rfl ?_;refine gO Tryz.func21 ?_;rw [hset];refine gO Tryz.func21 ?_;refine AWL.back (IH (k+1) (by omega) (by omega)) ?_;(conv=>whnf);repeat (first | exact trivial | (refine sI ?_; conv=>whnf))
  ·have hge:dn.length≤k:=by simpa using h5
   rw [doneTo_all hge hl2];refine AWL.freeze 3 ?_;(conv=>whnf);refine gO Tryz.func21 ?_
   with_reducible refine callP_eq (hap) ?_
   refine gO Tryz.func21 ?_;rfl
end Go.Proofs.YtajnanldmhpeaaaGreatDoor.P
end
