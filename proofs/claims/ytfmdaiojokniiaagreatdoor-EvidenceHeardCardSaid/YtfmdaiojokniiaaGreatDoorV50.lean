/- Several texts of mine, one behind the other. Conditions: as each says. -/
import Derived.Test.YtfmdaiojokniiaaGreatDoorV45
import Derived.Test.YtfmdaiojokniiaaGreatDoorV49
set_option linter.unusedVariables false
set_option linter.unusedSimpArgs false
section
namespace Go.Proofs.YtfmdaiojokniiaaGreatDoor.P
open Go Go.aw Go.Sort
set_option maxRecDepth 100000
set_option maxHeartbeats 4000000
theorem L2:∀ {ps acc:List Int},(ps.foldl gL acc).length≤acc.length+ps.length
 | [],acc=>by simp
 |p::ps,acc=>by
  have h:=L2 (ps:=ps) (acc:=gL acc p);have:(gL acc p).length≤acc.length+1:=by unfold gL; split <;> simp
  rw [List.foldl_cons,List.length_cons];omega
theorem WE {l:List Signed} {ps:List Int} {n:Nat} (h:ps.length≤n):(dq l ps).length≤n:=Nat.le_trans (List.length_filterMap_le ..) h
theorem WG {ps:List Int} {n:Nat} (h:ps.length≤n):(cA ps).length≤n:=Nat.le_trans (by have:=L2 (ps:=ps) (acc:=[]); simpa [cA] using this) h
theorem WH {l:List Signed} {ps:List Int}:∀ s∈dq l ps,s∈l:=fun s h=>by
 obtain ⟨p,_,hp⟩:=List.mem_filterMap.1 h;exact List.mem_of_getElem? hp
theorem WI {z:aG} (h:dE z=true):∀ s∈z.ab,s.set.data.length≤8:=fun s hs=>by
 simp only [dE,lO,Bool.and_eq_true] at h;have h:=xG h.1.2 s hs;simp only [eB,ez,Bool.and_eq_true,decide_eq_true_eq] at h;omega
def Holds (z:aG) (a:dC):Prop:=a.ab.length≤10∧∀ s∈a.ab,s∈z.ab
theorem Ft {z:aG} {k:Int} {ps:List Int} {c:Text} (h:ps.length≤10):Holds z ⟨k,dq z.ab ps,c⟩:=⟨WE h,WH⟩
theorem tf {z:aG} {k:Int} {ps:List Int} {c:Text} (h:ps.length≤10):Holds z ⟨k,dq z.ab (cA ps),c⟩:=Ft (WG h)
theorem holds_nil {z:aG} {k:Int} {c:Text}:Holds z ⟨k,[],c⟩:=⟨Nat.zero_le _,fun s h=>by cases h⟩
theorem pT {z:aG} {p:Prop} [Decidable p] {a b:dC} (h:Holds z a) (k:Holds z b):Holds z (if p then a else b):=by split; exact h; exact k
theorem L3 (z:aG) (q:bj):Holds z (kX z q):=by
 unfold kX;refine pT (Ft (by simp)) (pT (Ft (by simp)) (pT (tf (by simp)) ?_));split
 ·exact tf (by simp)
 ·exact pT (tf (by simp)) (pT (tf (by simp)) (pT (tf (by simp)) (tf (by simp))))
theorem A9 (z:aG) (q:bj):Holds z (fJ z q):=by
 cases hz:dE z
 ·rw [fJ,if_neg (by simp [kj,hz])];exact holds_nil
 have hd:∀ c,(aU z.ab ⟨c,2⟩::rj z.ab c::oH z.ab c).length≤10:=fun c=>by
  have h1:(ym z.ab c).length≤8:=by
   unfold ym;split
   ·rename_i s hs; exact WI hz s (List.mem_of_getElem? hs)
   ·simp
  have h2:(oH z.ab c).length≤8:=by
   unfold oH;rw [List.length_map];exact Nat.le_trans (List.length_filter_le ..) h1
  simpa using h2
 unfold fJ;refine pT ?_ holds_nil;unfold nI;refine pT ?_ holds_nil;split
 ·exact pT (L3 z q) (tf (hd _))
 ·exact L3 z q
theorem WJ {h:bJ} {x:dF} {i:Nat} {t:Int} (hb:dg h=true):lT 1 (eD (eS h x i) t)=true:=by
 simp only [dg,Bool.and_eq_true,decide_eq_true_eq] at hb;obtain ⟨⟨⟨⟨⟨⟨⟨⟨-,-⟩,-⟩,-⟩,b1⟩,b2⟩,b3⟩,b4⟩,b5⟩:=hb;have hm:∀ c∈(eS h x i).filter (kV t),c∈h.aB∧c.host=i∧c.bM≤t∧t<c.upto:=fun c hc=>by
  obtain ⟨c1,c2⟩:=List.mem_filter.1 hc;obtain ⟨c3,c4⟩:=List.mem_filter.1 c1;simp only [kV,fC,Bool.and_eq_true,decide_eq_true_eq,beq_iff_eq] at c2 c4;exact ⟨c3,c4.2,c2.1,c2.2⟩
 rw [AG];refine ⟨?_,fun p hp=>?_,?_,?_⟩
 ·rw [eD,List.length_map];exact Nat.le_trans (List.length_filter_le ..) (Nat.le_trans (List.length_filter_le ..) b1)
 ·obtain ⟨c,hc,rfl⟩:=List.mem_map.1 hp;have:=List.all_eq_true.1 b3 c (hm c hc).1;simp only [gK,Bool.and_eq_true] at this;simp [lS,this.2]
 ·rw [eD,List.map_map,List.Nodup,List.pairwise_map];have hp:((eS h x i).filter (kV t)).Pairwise kR:=(b4.filter _).filter _;refine (List.pairwise_iff_forall_sublist.2 fun {a b} hs=>?_);have ha:=hm a (hs.subset (by simp));have WK:=hm b (hs.subset (by simp));have nZ:=List.pairwise_iff_forall_sublist.1 hp hs;intro e;have e:a.az.ah=b.az.ah:=by simpa [bo.spot] using e
  exact nZ (by simp [aS.spot,ha.2.1,WK.2.1,e]) (by omega)
 ·refine Nat.le_trans ?_ b5;unfold AF pK;refine Di (xU List.nodup_nil) fun a ha=>?_;rw [qX] at ha ⊢;rcases ha with ha | ha
  ·simp at ha
  ·obtain ⟨p,hp,rfl⟩:=List.mem_map.1 ha;obtain ⟨c,hc,rfl⟩:=List.mem_map.1 hp;exact .inr (List.mem_map.2 ⟨c,(hm c hc).1,rfl⟩)
theorem L4 {q:bj} {l:List aG} {z:aG} (hz:nN q (nM l)=some z):z∈l:=by
 have hm:z∈nM l:=by
  revert hz
  unfold nN;split
  ·intro e; cases e
  ·rename_i e; intro h; cases h; rw [e]; simp
  ·rename_i e; intro h; rw [e]; split at h <;> cases h <;> simp
 exact (List.mergeSort_perm ..).mem_iff.1 hm
theorem L5 (y:Host):l4 [y] y.addr=0:=by simp [l4]
theorem WL (h:bJ) (x:dF) (hf:h.Fits) (hl:h.kb) (jC:x.ep) (i:Nat) (y:Host) (t:Int) (hy:h.aA[i]? = some y) (hb:dg h=true) (hr:jk x=true):aq E 31 [.agg [.sl [y.enc],.sl ((eD (eS h x i) t).map bo.enc),.str h.anchor.name,.int .i64 h.anchor.type,.int .i64 h.anchor.cD,.sl (h.anchor.data.map Datum.enc),.sl (h.hints.map (.int .i64))],.int .i64 y.addr,.agg [.str x.q.name,.int .i64 x.q.type]] (· = .aD [.agg [.int .i64 (kn h x i t).1.kind,.sl ((kn h x i t).1.ab.map Signed.enc),.str (kn h x i t).1.cut],.int .i64 (kn h x i t).2])∧(kn h x i t).1.ab.length≤2147483648∧∀ s∈(kn h x i t).1.ab,s.set.data.length≤2147483648∧s.sigs.length≤2147483648:=by
 have hq:gr x.q=true:=by simp [jk] at hr; exact hr.1.1.1.1.1
 have hZ:∀ p∈eD (eS h x i) t,∃ c∈h.aB,p.az=c.az:=fun p hp=>by
  obtain ⟨c,hc,rfl⟩:=List.mem_map.1 hp;exact ⟨c,(List.mem_filter.1 (List.mem_filter.1 hc).1).1,rfl⟩
 have hp:=WJ (x:=x) (i:=i) (t:=t) hb;have hw:nz ⟨[y],eD (eS h x i) t,h.anchor,h.hints⟩=true:=by
  rw [Eu];simp only [dg,dW,Bool.and_eq_true] at hb;exact ⟨by simp [dW,List.all_eq_true.1 hb.1.1.1.2.1.1.2 y (List.mem_of_getElem? hy)],hp,hb.1.1.1.2.2⟩
 have WM:=hf.aA y (List.mem_of_getElem? hy);have c:=LX ⟨[y],eD (eS h x i) t,h.anchor,h.hints⟩ y.addr x.q ⟨fun z hz=>by simp at hz; subst hz; exact WM,hf.anchor,hf.hints,fun p hp=>by obtain ⟨c,hc,e⟩:=hZ p hp; rw [e]; exact hf.da c hc⟩ hw hq jC.1 (by simp only [L5]; omega);simp only [L5] at c;refine ⟨c,?_⟩;unfold kn l5;split
 ·exact ⟨by simp,fun s hs=>by simp at hs⟩
 ·rename_i z hz;have Fu:z∈eU (eD (eS h x i) t) 0 x.q.name:=L4 hz;obtain ⟨p,p1,-,-,rfl⟩:=yv.1 Fu;obtain ⟨c,hc,e⟩:=hZ p p1;have gP:=hl.da c hc;rw [e];exact ⟨Nat.le_trans (A9 _ _).1 (by omega),fun s hs=>⟨(gP.each s ((A9 _ _).2 s hs)).data,(gP.each s ((A9 _ _).2 s hs)).sigs⟩⟩
theorem WN (h:bJ) (x:dF) (hf:h.Fits) (hl:h.kb) (jC:x.ep):aq E 17 [h.enc,x.enc] (· = .aD [.sl ((kW (kn h x) h x).map (.int .i64)),.int .i64 (nG h x)]) :=
 EW h x (kn h x) hf hl.aB jC fun i y t hy hb hr _=>WL h x hf hl jC i y t hy hb hr
end Go.Proofs.YtfmdaiojokniiaaGreatDoor.P
end
section
namespace Go.Proofs.YtfmdaiojokniiaaGreatDoor.P
open Go Go.aw Go.Sort
set_option maxRecDepth 100000
set_option maxHeartbeats 4000000
theorem W1 (x:dF) (hf:x.ep):aq E 32 [x.enc] (· = .bool (jk x)):=by
 have c1:=Ku x.q hf.1;have c2:=Tj x.answer hf.2;have c3:=Tu x.answer;obtain ⟨t,ad,⟨qn,qt⟩,⟨ak,al,ac⟩⟩:=x;unfold jk;simp only at c1 c2 c3 ⊢;show aq E _ [DV.agg [.int .i64 t,.int .i64 ad,.str qn,.int .i64 qt,.int .i64 ak,.sl (al.map Signed.enc),.str ac]] _;refine eP Tryz.func32 ?_;repeat' (first | with_reducible refine ao (c1) ?_ | with_reducible refine ay (c1) ?_ | with_reducible refine ao (c2) ?_ | with_reducible refine ay (c2) ?_ | with_reducible refine ao (c3) ?_ | with_reducible refine ay (c3) ?_ | with_reducible refine cY ?_ | with_reducible refine cN ?_ | with_reducible refine ai (fun _=>?_) (fun _=>?_) | refine gA Tryz.func32 ?_ | refine gB ?_ | with_reducible rfl)
 all_goals (refine congrArg DV.bool ?_; simp_all; try omega)
theorem W2 {h:bJ} {x:dF} {i:Nat} {t:Int}:(eU (eD (eS h x i) t) 0 x.q.name)=eU (eY h.aB t) i x.q.name:=by
 unfold eU eD eS eY vn;simp only [List.filter_map,List.map_map,List.filter_filter]
 congr 1
 refine List.filter_congr fun c _=>?_;simp only [Function.comp,kV,fC];cases Nm.iB x.q.name c.az.ah <;> cases c.host==(i:Int) <;> cases decide (c.bM≤t) <;> cases decide (t<c.upto) <;> rfl
theorem W3 {h:bJ} {x:dF} {i:Nat} {t:Int}:kn h x i t=l5 (eY h.aB t) i x.q:=by
 unfold kn l5;rw [W2]
theorem W4 {l:List bo} {k:Int} {q:bj} (hz:∀ p∈l,dE p.az=true) (hq:gr q=true):(l5 l k q).2=0∧((l5 l k q).1=⟨7,[],[]⟩∨∃ p∈l,(l5 l k q).1=fJ p.az q∧kj p.az q=0):=by
 unfold l5;split
 ·exact ⟨rfl,.inl rfl⟩
 ·rename_i z jq;have Fu:z∈eU l k q.name:=L4 jq;obtain ⟨p,p1,-,-,rfl⟩:=yv.1 Fu;have h0:kj p.az q=0:=by simp [kj,hz p p1,hq]
  exact ⟨h0,.inr ⟨p,p1,rfl,h0⟩⟩
theorem W5 {z:aG} {q:bj} (h:kj z q=0):lX (fJ z q)=false:=by
 have hk:=(Lj z q).1;have:(fJ z q).kind≠0:=by
  rw [fJ,if_pos h];unfold nI;split
  ·split
   ·split
    ·exact hk
    ·simp
   ·exact hk
  ·simp
 simp [lX,this]
theorem W6 (z:aG) (q:bj):(fJ z q).cut=[]∨∃ s∈z.ab,(fJ z q).cut=s.set.name:=by
 have fO:(kX z q).cut=[]:=by
  unfold kX;repeat' split
  all_goals rfl
 unfold fJ;split
 ·unfold nI;split
  ·split
   ·rename_i c hc;split
    ·exact .inl fO
    ·obtain ⟨s,hs,e⟩:=List.mem_map.1 (List.mem_of_find?_eq_some hc);exact .inr ⟨s,(List.mem_filter.1 hs).1,e.symm⟩
   ·exact .inl fO
  ·exact .inl rfl
 ·exact .inl rfl
end Go.Proofs.YtfmdaiojokniiaaGreatDoor.P
end
section
namespace Go.Proofs.YtfmdaiojokniiaaGreatDoor.P
open Go Go.aw Go.Sort
set_option maxRecDepth 100000
set_option maxHeartbeats 4000000
theorem W7 {l:List Host} {k:Nat} {y:Host} (hn:(l.map (·.addr)).Nodup) (hy:l[k]? = some y):l4 l y.addr=k:=by
 refine LV hy (by simp) fun j z hj hz=>?_;cases e:z.addr==y.addr with
 |false=>rfl
 |true =>
  have e:z.addr=y.addr:=by simpa using e
  have:j=k:=(List.getElem?_inj (by simpa using aR hz) hn).1 (by rw [List.getElem?_map,List.getElem?_map,hz,hy]; simp [e]);omega
theorem W8 {h:bJ} {x:dF} {k:Nat} {t:Int} (hv:dg h=true) (hr:jk x=true) (hk:k<h.aA.length) (t1:0≤t) (t2:t<h.fin) (o1:x.time - h.bS≤t) (o2:t≤x.time+h.bS) (hz:lX x.answer=false) (ha:l5 (eY h.aB t) k x.q=(x.answer,0)):(k:Int)∈kW (kn h x) h x:=by
 rw [WD];refine ⟨by simp [hv,hr,hz],k,rfl,hk,?_⟩;unfold gu;rw [List.any_eq_true];obtain ⟨s,s1,s2⟩:=WC (h:=h) (x:=x) (i:=k) (t:=t) (by unfold kh; omega) (by unfold pP; omega);refine ⟨s,s1,?_⟩;have e:kn h x k s=(x.answer,0):=by rw [← ha,← W3]; unfold kn; rw [s2]
 simp [e]
theorem W9 {z:aG} {q:bj} (hf:z.Good) (hl:z.kb):(fJ z q).ep:=by
 obtain ⟨h1,h2⟩:=A9 z q;refine ⟨lp (by omega),fun s hs=>VV (hf.2.2 s (h2 s hs)) (hl.each s (h2 s hs)).data,?_⟩;rcases W6 z q with e | ⟨s,hs,e⟩
 ·rw [e]; exact Nat.zero_le _
 ·rw [e]; exact (hf.2.2 s hs).1.1
theorem Xa (h:bJ) (oI:Int) (q:bj) (t off addr:Int) (hg:h.Good) (hw:0≤oI∧oI≤255) (hq:q.Good):aq E 8 [h.enc,.int .u8 oI,q.enc,.int .i64 t,.int .i64 off,.int .i64 addr] (· = .bool true):=by
 have c1:=Tv h;cases hf:yc h
 ·rw [hf] at c1;refine eP Tryz.func8 ?_;refine ao (AZ) ?_;refine gO Tryz.func8 ?_;refine ao (c1) ?_;refine gO Tryz.func8 ?_;repeat' (first | with_reducible refine ao (c1) ?_ | with_reducible refine ay (c1) ?_ | with_reducible refine cY ?_ | with_reducible refine cN ?_ | with_reducible refine ai (fun _=>?_) (fun _=>?_) | refine gA Tryz.func8 ?_ | refine gB ?_ | with_reducible rfl)
 obtain ⟨f1,f2,f3,f4⟩:=VU hg hf;rw [hf] at c1;have c2:=SH h f1 (by omega) f3;have c3:=Ku q hq.1;cases hv:dg h
 ·rw [hv] at c2;refine eP Tryz.func8 ?_;refine ao (AZ) ?_;refine gO Tryz.func8 ?_;refine ao (c1) ?_;refine gO Tryz.func8 ?_;repeat' (first | with_reducible refine ao (c2) ?_ | with_reducible refine ay (c2) ?_ | with_reducible refine cY ?_ | with_reducible refine cN ?_ | with_reducible refine ai (fun _=>?_) (fun _=>?_) | refine gA Tryz.func8 ?_ | refine gB ?_ | with_reducible rfl)
 rw [hv] at c2;cases hb:gr q
 ·rw [hb] at c3;refine eP Tryz.func8 ?_;refine ao (AZ) ?_;refine gO Tryz.func8 ?_;refine ao (c1) ?_;refine gO Tryz.func8 ?_;refine aQ ?_;refine gO Tryz.func8 ?_;refine ao (c2) ?_;refine gO Tryz.func8 ?_;repeat' (first | with_reducible refine ao (c3) ?_ | with_reducible refine ay (c3) ?_ | with_reducible refine cY ?_ | with_reducible refine cN ?_ | with_reducible refine ai (fun _=>?_) (fun _=>?_) | refine gA Tryz.func8 ?_ | refine gB ?_ | with_reducible rfl)
 rw [hb] at c3;have eH:=hv;simp only [dg,dW,Bool.and_eq_true,decide_eq_true_eq] at eH;have hd:0≤h.bS∧h.bS≤1000:=by omega
 have xE:h.aA.length≤64:=by omega
 have iM:h.fin≤10000000:=by omega
 obtain ⟨qn,qt⟩:=q;refine eP Tryz.func8 ?_;refine ao (AZ) ?_;refine gO Tryz.func8 ?_;refine ao (c1) ?_;refine gO Tryz.func8 ?_;refine aQ ?_;refine gO Tryz.func8 ?_;refine ao (c2) ?_;refine gO Tryz.func8 ?_;refine aQ ?_;refine gO Tryz.func8 ?_;refine ao (c3) ?_;refine gO Tryz.func8 ?_;refine aQ ?_;refine gO Tryz.func8 ?_;refine ai (fun a1=>?_) (fun a1=>?_)
 ·repeat' (first | with_reducible refine ao (c3) ?_ | with_reducible refine ay (c3) ?_ | with_reducible refine cY ?_ | with_reducible refine cN ?_ | with_reducible refine ai (fun _=>?_) (fun _=>?_) | refine gA Tryz.func8 ?_ | refine gB ?_ | with_reducible rfl)
 refine gO Tryz.func8 ?_;refine ai (fun a2=>?_) (fun a2=>?_)
 ·repeat' (first | with_reducible refine ao (c3) ?_ | with_reducible refine ay (c3) ?_ | with_reducible refine cY ?_ | with_reducible refine cN ?_ | with_reducible refine ai (fun _=>?_) (fun _=>?_) | refine gA Tryz.func8 ?_ | refine gB ?_ | with_reducible rfl)
 refine gO Tryz.func8 ?_;refine ai (fun a3=>?_) (fun a3=>?_)
 ·repeat' (first | with_reducible refine ao (c3) ?_ | with_reducible refine ay (c3) ?_ | with_reducible refine cY ?_ | with_reducible refine cN ?_ | with_reducible refine ai (fun _=>?_) (fun _=>?_) | refine gA Tryz.func8 ?_ | refine gB ?_ | with_reducible rfl)
 refine gO Tryz.func8 ?_;refine ai (fun a4=>?_) (fun a4=>?_)
 ·repeat' (first | with_reducible refine ao (c3) ?_ | with_reducible refine ay (c3) ?_ | with_reducible refine cY ?_ | with_reducible refine cN ?_ | with_reducible refine ai (fun _=>?_) (fun _=>?_) | refine gA Tryz.func8 ?_ | refine gB ?_ | with_reducible rfl)
 refine gO Tryz.func8 ?_;refine ai (fun a5=>?_) (fun a5=>?_)
 ·repeat' (first | with_reducible refine ao (c3) ?_ | with_reducible refine ay (c3) ?_ | with_reducible refine cY ?_ | with_reducible refine cN ?_ | with_reducible refine ai (fun _=>?_) (fun _=>?_) | refine gA Tryz.func8 ?_ | refine gB ?_ | with_reducible rfl)
 refine gO Tryz.func8 ?_;refine ai (fun a6=>?_) (fun a6=>?_)
 ·repeat' (first | with_reducible refine ao (c3) ?_ | with_reducible refine ay (c3) ?_ | with_reducible refine cY ?_ | with_reducible refine cN ?_ | with_reducible refine ai (fun _=>?_) (fun _=>?_) | refine gA Tryz.func8 ?_ | refine gB ?_ | with_reducible rfl)
 have aJ:h.aA.length≠0:=by simpa using a1
 have t1:0≤t:=by simpa using a2
 have t2:t<h.fin:=by simpa using a3
 rw [wrap64 (by omega) (by omega)] at a4;have o1 : -h.bS≤off:=by simpa using a4
 have o2:off≤h.bS:=by simpa using a5
 rw [wrap64 (by omega) (by omega)] at a6;have o3:0≤t+off:=by simpa using a6
 have h0:mS h t=0:=A'.2 ⟨hv,t1,t2⟩;have kD:rk h t=⟨h.aA,eY h.aB t,h.anchor,h.hints⟩:=by rw [rk,if_pos h0]
 have c4:=W0 h t f1 (by omega);have pR:=WT h0;rw [h0,kD] at c4;rw [kD] at pR;refine gO Tryz.func8 ?_;refine a8 (by simpa using aJ) ?_;refine gO Tryz.func8 ?_;obtain ⟨k,hk,oF⟩:∃ k:Nat,yW BinOp.rem IntKind.i64 (IntKind.i64.wrap oI) ((h.aA.map Host.enc).length:Int)=k∧k<h.aA.length:=by
  refine ⟨oI.toNat % h.aA.length,?_,Nat.mod_lt _ (by omega)⟩;rw [wrap64 (by omega) (by omega),List.length_map];show oI.tmod _=_;rw [Int.tmod_eq_emod_of_nonneg hw.1,Int.natCast_emod,Int.toNat_of_nonneg hw.1]
 obtain ⟨y,hy⟩:=aL oF;have Mb:l4 h.aA y.addr=k:=W7 (by have:=hv; simp only [dg,dW,Bool.and_eq_true,decide_eq_true_eq] at this; simp_all) hy;have AR:∀ p∈eY h.aB t,dE p.az=true:=fun p hp=>by
  have:=(Eu.1 pR).2.1;have:=(AG.1 this).2.1 p hp;simp only [lS,Bool.and_eq_true] at this;exact this.2
 have c5:=LX ⟨h.aA,eY h.aB t,h.anchor,h.hints⟩ y.addr ⟨qn,qt⟩ ⟨f1.aA,f1.anchor,f1.hints,fun p hp=>by obtain ⟨c,hc,-,-,e⟩:=Ba hp; subst e; exact f1.da c hc⟩ pR hb hq.1 (by rw [Mb]; omega);simp only [Mb] at c5;obtain ⟨z1,z2⟩:=W4 (k:=k) AR hb;obtain ⟨A,hA⟩:∃ A,(l5 (eY h.aB t) k ⟨qn,qt⟩).1=A:=⟨_,rfl⟩;rw [z1,hA] at c5;rw [hA] at z2;have Fv:A.ep∧lX A=false:=by
  rcases z2 with rfl | ⟨p,hp,rfl,h3⟩
  ·exact ⟨⟨Nat.zero_le _,fun s hs=>absurd hs (by simp),Nat.zero_le _⟩,by decide⟩
  ·obtain ⟨c,hc,-,-,e⟩:=Ba hp;subst e;exact ⟨W9 (hg.2.1.2 c hc).2.2.2 (f4.da c hc),W5 h3⟩
 have c6:=WN h ⟨t+off,addr,⟨qn,qt⟩,A⟩ f1 f4 ⟨hq.1,Fv.1⟩;have c7:=W1 ⟨t+off,addr,⟨qn,qt⟩,A⟩ ⟨hq.1,Fv.1⟩;have Xb:=fun hr=>W8 (x:=⟨t+off,addr,⟨qn,qt⟩,A⟩) (k:=k) (t:=t) hv hr oF t1 t2 (by show t+off - h.bS≤t; omega) (by show t≤t+off+h.bS; omega) Fv.2 (by rw [← hA]; exact Prod.ext rfl z1);rw [hk];refine ao (c4) ?_;refine gO Tryz.func8 ?_;refine I.bH af bI 2000 (by kernel_rfl) ?_;(conv=>whnf);refine aE (e:=y.enc) (aX hy) rfl ?_;refine gD ?_;refine ay (c5) ?_;refine gD ?_;refine And.intro (by kernel_rfl) ?_;(conv=>whnf);refine gO Tryz.func8 ?_;refine aZ (by decide) ?_;refine gO Tryz.func8 ?_;refine aZ (by decide) ?_;refine gO Tryz.func8 ?_;rw [wrap64 (n:=t+off) (by omega) (by omega)];refine ao (c6) ?_;refine gO Tryz.func8 ?_;refine ao (c7) ?_;refine gO Tryz.func8 ?_;cases hr:jk ⟨t+off,addr,⟨qn,qt⟩,A⟩
 ·rw [show nG h ⟨t+off,addr,⟨qn,qt⟩,A⟩=1 by simp [nG,hr]];refine bh rfl ?_;refine gO Tryz.func8 ?_;repeat' (first | with_reducible refine ao (c7) ?_ | with_reducible refine ay (c7) ?_ | with_reducible refine cY ?_ | with_reducible refine cN ?_ | with_reducible refine ai (fun _=>?_) (fun _=>?_) | refine gA Tryz.func8 ?_ | refine gB ?_ | with_reducible rfl)
  rfl
 rw [show nG h ⟨t+off,addr,⟨qn,qt⟩,A⟩=0 by simp [nG,hv,hr]]
 have c8:=Ky (kW (kn h ⟨t+off,addr,⟨qn,qt⟩,A⟩) h ⟨t+off,addr,⟨qn,qt⟩,A⟩) k (by
  unfold kW;split
  ·rw [List.length_map];exact Nat.le_trans (List.length_filter_le ..) (by rw [List.length_range]; exact lp (by omega))
  ·exact Nat.zero_le _)
 rw [decide_eq_true (Xb hr)] at c8;refine aZ rfl ?_;refine gO Tryz.func8 ?_;repeat' (first | with_reducible refine ao (c8) ?_ | with_reducible refine ay (c8) ?_ | with_reducible refine cY ?_ | with_reducible refine cN ?_ | with_reducible refine ai (fun _=>?_) (fun _=>?_) | refine gA Tryz.func8 ?_ | refine gB ?_ | with_reducible rfl)
theorem Xc (h:bJ) (oI:Int) (q:bj) (t off addr:Int) (g0:h.Good) (g1:U8 oI) (g2:q.Good) (g3:dD t) (g4:dD off) (g5:dD addr):aq E 8 [h.enc,.int .u8 oI,q.enc,.int .i64 t,.int .i64 off,.int .i64 addr] (· = .bool true):=Xa h oI q t off addr g0 g1 g2
end Go.Proofs.YtfmdaiojokniiaaGreatDoor.P
end
