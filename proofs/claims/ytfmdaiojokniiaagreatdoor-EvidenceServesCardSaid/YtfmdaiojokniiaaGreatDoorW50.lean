/- Several texts of mine, one behind the other. Conditions: as each says. -/
import Derived.Test.YtfmdaiojokniiaaGreatDoorW45
import Derived.Test.YtfmdaiojokniiaaGreatDoorW49
set_option linter.unusedVariables false
set_option linter.unusedSimpArgs false
section
namespace Go.Proofs.YtfmdaiojokniiaaGreatDoor.P
open Go Go.aw Go.Sort
set_option maxRecDepth 100000
set_option maxHeartbeats 4000000
theorem KK:∀ {ps acc:List Int},(ps.foldl gb acc).length≤acc.length+ps.length
 | [],acc=>by simp
 |p::ps,acc=>by
  have h:=KK (ps:=ps) (acc:=gb acc p);have:(gb acc p).length≤acc.length+1:=by unfold gb; split <;> simp
  rw [List.foldl_cons,List.length_cons];omega
theorem U3 {l:List Signed} {ps:List Int} {n:Nat} (h:ps.length≤n):(dn l ps).length≤n:=Nat.le_trans (List.length_filterMap_le ..) h
theorem U4 {ps:List Int} {n:Nat} (h:ps.length≤n):(cz ps).length≤n:=Nat.le_trans (by have:=KK (ps:=ps) (acc:=[]); simpa [cz] using this) h
theorem U5 {l:List Signed} {ps:List Int}:∀ s∈dn l ps,s∈l:=fun s h=>by
 obtain ⟨p,_,hp⟩:=List.mem_filterMap.1 h;exact List.mem_of_getElem? hp
theorem U6 {z:aF} (h:ep z=true):∀ s∈z.ae,s.set.data.length≤8:=fun s hs=>by
 simp only [ep,ny,Bool.and_eq_true] at h;have h:=wL h.1.2 s hs;simp only [jy,fF,Bool.and_eq_true,decide_eq_true_eq] at h;omega
def Holds (z:aF) (a:dj):Prop:=a.ae.length≤10∧∀ s∈a.ae,s∈z.ae
theorem En {z:aF} {k:Int} {ps:List Int} {c:Text} (h:ps.length≤10):Holds z ⟨k,dn z.ae ps,c⟩:=⟨U3 h,U5⟩
theorem si {z:aF} {k:Int} {ps:List Int} {c:Text} (h:ps.length≤10):Holds z ⟨k,dn z.ae (cz ps),c⟩:=En (U4 h)
theorem holds_nil {z:aF} {k:Int} {c:Text}:Holds z ⟨k,[],c⟩:=⟨Nat.zero_le _,fun s h=>by cases h⟩
theorem oZ {z:aF} {p:Prop} [Decidable p] {a b:dj} (h:Holds z a) (k:Holds z b):Holds z (if p then a else b):=by split; exact h; exact k
theorem KL (z:aF) (q:br):Holds z (lU z q):=by
 unfold lU;refine oZ (En (by simp)) (oZ (En (by simp)) (oZ (si (by simp)) ?_));split
 ·exact si (by simp)
 ·exact oZ (si (by simp)) (oZ (si (by simp)) (oZ (si (by simp)) (si (by simp))))
theorem Eo (z:aF) (q:br):Holds z (jG z q):=by
 cases hz:ep z
 ·rw [jG,if_neg (by simp [mD,hz])];exact holds_nil
 have hd:∀ c,(aO z.ae ⟨c,2⟩::qj z.ae c::nN z.ae c).length≤10:=fun c=>by
  have h1:(xp z.ae c).length≤8:=by
   unfold xp;split
   ·rename_i s hs; exact U6 hz s (List.mem_of_getElem? hs)
   ·simp
  have h2:(nN z.ae c).length≤8:=by
   unfold nN;rw [List.length_map];exact Nat.le_trans (List.length_filter_le ..) h1
  simpa using h2
 unfold jG;refine oZ ?_ holds_nil;unfold oW;refine oZ ?_ holds_nil;split
 ·exact oZ (KL z q) (si (hd _))
 ·exact KL z q
theorem U7 {h:bN} {x:c9} {i:Nat} {t:Int} (hb:ez h=true):kS 1 (eh (dV h x i) t)=true:=by
 simp only [ez,Bool.and_eq_true,decide_eq_true_eq] at hb;obtain ⟨⟨⟨⟨⟨⟨⟨⟨-,-⟩,-⟩,-⟩,b1⟩,b2⟩,b3⟩,b4⟩,b5⟩:=hb;have hm:∀ c∈(dV h x i).filter (kj t),c∈h.aG∧c.host=i∧c.bQ≤t∧t<c.upto:=fun c hc=>by
  obtain ⟨c1,c2⟩:=List.mem_filter.1 hc;obtain ⟨c3,c4⟩:=List.mem_filter.1 c1;simp only [kj,fj,Bool.and_eq_true,decide_eq_true_eq,beq_iff_eq] at c2 c4;exact ⟨c3,c4.2,c2.1,c2.2⟩
 rw [IU];refine ⟨?_,fun p hp=>?_,?_,?_⟩
 ·rw [eh,List.length_map];exact Nat.le_trans (List.length_filter_le ..) (Nat.le_trans (List.length_filter_le ..) b1)
 ·obtain ⟨c,hc,rfl⟩:=List.mem_map.1 hp;have:=List.all_eq_true.1 b3 c (hm c hc).1;simp only [mv,Bool.and_eq_true] at this;simp [mu,this.2]
 ·rw [eh,List.map_map,List.Nodup,List.pairwise_map];have hp:((dV h x i).filter (kj t)).Pairwise qa:=(b4.filter _).filter _;refine (List.pairwise_iff_forall_sublist.2 fun {a b} hs=>?_);have ha:=hm a (hs.subset (by simp));have U8:=hm b (hs.subset (by simp));have sQ:=List.pairwise_iff_forall_sublist.1 hp hs;intro e;have e:a.ay.ai=b.ay.ai:=by simpa [bj.spot] using e
  exact sQ (by simp [aX.spot,ha.2.1,U8.2.1,e]) (by omega)
 ·refine Nat.le_trans ?_ b5;unfold zD uf;refine Cq (Dn List.nodup_nil) fun a ha=>?_;rw [ub] at ha ⊢;rcases ha with ha | ha
  ·simp at ha
  ·obtain ⟨p,hp,rfl⟩:=List.mem_map.1 ha;obtain ⟨c,hc,rfl⟩:=List.mem_map.1 hp;exact .inr (List.mem_map.2 ⟨c,(hm c hc).1,rfl⟩)
theorem KM (y:Host):mH [y] y.addr=0:=by simp [mH]
theorem U9 (h:bN) (x:c9) (hf:h.Fits) (hl:h.kb) (jb:x.eF) (i:Nat) (y:Host) (t:Int) (hy:h.aB[i]? = some y) (hb:ez h=true) (hr:iK x=true):au E 31 [.agg [.sl [y.enc],.sl ((eh (dV h x i) t).map bj.enc),.str h.anchor.name,.int .i64 h.anchor.type,.int .i64 h.anchor.cV,.sl (h.anchor.data.map Datum.enc),.sl (h.hints.map (.int .i64))],.int .i64 y.addr,.agg [.str x.q.name,.int .i64 x.q.type]] (· = .az [.agg [.int .i64 (fk h x i t).1.kind,.sl ((fk h x i t).1.ae.map Signed.enc),.str (fk h x i t).1.cut],.int .i64 (fk h x i t).2])∧(fk h x i t).1.ae.length≤2147483648∧∀ s∈(fk h x i t).1.ae,s.set.data.length≤2147483648∧s.sigs.length≤2147483648:=by
 have hq:iI x.q=true:=by simp [iK] at hr; exact hr.1.1.1.1.1
 have hZ:∀ p∈eh (dV h x i) t,∃ c∈h.aG,p.ay=c.ay:=fun p hp=>by
  obtain ⟨c,hc,rfl⟩:=List.mem_map.1 hp;exact ⟨c,(List.mem_filter.1 (List.mem_filter.1 hc).1).1,rfl⟩
 have hp:=U7 (x:=x) (i:=i) (t:=t) hb;have hw:nH ⟨[y],eh (dV h x i) t,h.anchor,h.hints⟩=true:=by
  rw [QC];simp only [ez,fG,Bool.and_eq_true] at hb;exact ⟨by simp [fG,List.all_eq_true.1 hb.1.1.1.2.1.1.2 y (List.mem_of_getElem? hy)],hp,hb.1.1.1.2.2⟩
 have U':=hf.aB y (List.mem_of_getElem? hy);have c:=US ⟨[y],eh (dV h x i) t,h.anchor,h.hints⟩ y.addr x.q ⟨fun z hz=>by simp at hz; subst hz; exact U',hf.anchor,hf.hints,fun p hp=>by obtain ⟨c,hc,e⟩:=hZ p hp; rw [e]; exact hf.cW c hc⟩ hw hq jb.1 (by simp only [KM]; omega);simp only [KM] at c;refine ⟨c,?_⟩;unfold fk ux;split
 ·exact ⟨by simp,fun s hs=>by simp at hs⟩
 ·rename_i z hz;have Va:z∈fc (eh (dV h x i) t) 0 x.q.name:=by
   have hm:z∈mI (fc (eh (dV h x i) t) 0 x.q.name):=by
    revert hz
    unfold mJ;split
    ·intro e; cases e
    ·rename_i e; intro h; cases h; rw [e]; simp
    ·rename_i e; intro h; rw [e]; split at h <;> cases h <;> simp
   exact (List.mergeSort_perm ..).mem_iff.1 hm
  obtain ⟨p,p1,-,-,rfl⟩:=z8.1 Va;obtain ⟨c,hc,e⟩:=hZ p p1;have gh:=hl.cW c hc;rw [e];exact ⟨Nat.le_trans (Eo _ _).1 (by omega),fun s hs=>⟨(gh.each s ((Eo _ _).2 s hs)).data,(gh.each s ((Eo _ _).2 s hs)).sigs⟩⟩
theorem KN (h:bN) (x:c9) (hf:h.Fits) (hl:h.kb) (jb:x.eF):au E 17 [h.enc,x.enc] (· = .az [.sl ((fa (fk h x) h x).map (.int .i64)),.int .i64 (kV h x)]) :=
 DQ h x (fk h x) hf hl.aG jb fun i y t hy hb hr _=>U9 h x hf hl jb i y t hy hb hr
theorem Vb (k:Int) (z:aF) (n:Text) (hk:0≤k) (hn:n.length≤1000) (hv:Nm.valid z.ai=true):au E 24 [.sl [bj.enc ⟨k,z⟩],.int .i64 k,.str n,.str []] (· = .int .i64 (if Nm.under n z.ai then 0 else -1)):=by
 have c1:=N1 n z.ai hn (by have:=fD hv; omega);have aE:(z.ai==([]:Text))=false:=by
  cases e:z.ai with
  |nil=>rw [e] at hv; exact absurd hv (by decide)
  |cons a l=>rfl
 obtain ⟨a,l⟩:=z;simp only at *;show au E _ [.sl [DV.agg [.int .i64 k,.str a,.sl (l.map Signed.enc)]],_,_,_] _;have A1:pP [bj.enc ⟨k,a,l⟩] 0 (bj.enc ⟨k,a,l⟩):=⟨by omega,rfl⟩;refine eP Tryz.func24 ?_;refine I.jV ?_;refine I.run ag Tryz.func24 2000 ?_;(conv=>whnf);refine bg (by simp) ?_;refine gO Tryz.func24 ?_;refine aT (e:=bj.enc ⟨k,a,l⟩) A1 rfl ?_;refine gO Tryz.func24 ?_;refine bg (by simpa using hk) ?_;refine gO Tryz.func24 ?_;refine aT (e:=bj.enc ⟨k,a,l⟩) A1 rfl ?_;refine gO Tryz.func24 ?_;refine aW (by simp) ?_;refine gO Tryz.func24 ?_;refine aW aE ?_;refine gO Tryz.func24 ?_;cases hu:Nm.under n a
 ·rw [hu] at c1;repeat' (first | with_reducible refine ar (c1) ?_ | with_reducible refine aR (c1) ?_ | with_reducible refine cY ?_ | with_reducible refine cN ?_ | with_reducible refine aj (fun _=>?_) (fun _=>?_) | refine gA Tryz.func24 ?_ | refine gB ?_ | with_reducible rfl)
  refine gO Tryz.func24 ?_;refine I.again ?_;refine I.run ag Tryz.func24 2000 ?_;(conv=>whnf);refine aW rfl ?_;refine gO Tryz.func24 ?_;rfl
 ·rw [hu] at c1;repeat' (first | with_reducible refine ar (c1) ?_ | with_reducible refine aR (c1) ?_ | with_reducible refine cY ?_ | with_reducible refine cN ?_ | with_reducible refine aj (fun _=>?_) (fun _=>?_) | refine gA Tryz.func24 ?_ | refine gB ?_ | with_reducible rfl)
  refine gO Tryz.func24 ?_;refine I.bU ag bV 2000 (by kernel_rfl) ?_;(conv=>whnf);refine aY ?_;refine gD ?_;refine gO Tryz.func24 ?_;refine aY ?_;refine gO Tryz.func24 ?_;refine I.again ?_;refine I.run ag Tryz.func24 2000 ?_;(conv=>whnf);refine aW rfl ?_;refine gO Tryz.func24 ?_;rfl
end Go.Proofs.YtfmdaiojokniiaaGreatDoor.P
end
section
namespace Go.Proofs.YtfmdaiojokniiaaGreatDoor.P
open Go Go.aw Go.Sort
set_option maxRecDepth 100000
set_option maxHeartbeats 4000000
def mK (x:c9) (d v:Int) (c:aX):Bool:=c.host==v&&decide (c.bQ≤x.time+d)&&decide (c.upto>x.time - d)&&Nm.under x.q.name c.ay.ai
theorem Vc (h:bN) (x:c9) (more:Int) (hg:h.Good) (hx:x.Good) (hm:0≤more∧more<65536):au E 5 [h.enc,x.enc,.int .u16 more] (· = .bool true):=by
 have c1:=RM h;have c2:=RL x.answer.ae hx.2.2.2.2.1.1;cases hf:xg h
 ·rw [hf] at c1;refine eP Tryz.func5 ?_;refine ar (Ed) ?_;refine gO Tryz.func5 ?_;refine ar (c1) ?_;refine gO Tryz.func5 ?_;repeat' (first | with_reducible refine ar (c2) ?_ | with_reducible refine aR (c2) ?_ | with_reducible refine cY ?_ | with_reducible refine cN ?_ | with_reducible refine aj (fun _=>?_) (fun _=>?_) | refine gA Tryz.func5 ?_ | refine gB ?_ | with_reducible rfl)
 cases iG:xf x.answer.ae
 ·rw [hf] at c1;rw [iG] at c2;refine eP Tryz.func5 ?_;refine ar (Ed) ?_;refine gO Tryz.func5 ?_;refine ar (c1) ?_;refine gO Tryz.func5 ?_;repeat' (first | with_reducible refine ar (c2) ?_ | with_reducible refine aR (c2) ?_ | with_reducible refine cY ?_ | with_reducible refine cN ?_ | with_reducible refine aj (fun _=>?_) (fun _=>?_) | refine gA Tryz.func5 ?_ | refine gB ?_ | with_reducible rfl)
 obtain ⟨f1,f2,f3,f4⟩:=Ua hg hf;have jb:x.eF:=⟨hx.2.2.1.1,hx.2.2.2.2.1.1,Uc hx.2.2.2.2.1.2 iG,hx.2.2.2.2.2⟩;have c3:=KN h x f1 f4 jb;rw [hf] at c1;rw [iG] at c2;refine eP Tryz.func5 ?_;refine ar (Ed) ?_;refine gO Tryz.func5 ?_;refine ar (c1) ?_;refine gO Tryz.func5 ?_;refine aN ?_;refine gO Tryz.func5 ?_;refine ar (c2) ?_;refine gO Tryz.func5 ?_;refine aN ?_;refine gO Tryz.func5 ?_;refine aj (fun h5=>?_) (fun h5=>?_)
 ·repeat' (first | with_reducible refine ar (c2) ?_ | with_reducible refine aR (c2) ?_ | with_reducible refine cY ?_ | with_reducible refine cN ?_ | with_reducible refine aj (fun _=>?_) (fun _=>?_) | refine gA Tryz.func5 ?_ | refine gB ?_ | with_reducible rfl)
 have h5:x.q.name.length≤100:=by simp at h5; omega
 refine gO Tryz.func5 ?_;refine aj (fun h6=>?_) (fun h6=>?_)
 ·repeat' (first | with_reducible refine ar (c2) ?_ | with_reducible refine aR (c2) ?_ | with_reducible refine cY ?_ | with_reducible refine cN ?_ | with_reducible refine aj (fun _=>?_) (fun _=>?_) | refine gA Tryz.func5 ?_ | refine gB ?_ | with_reducible rfl)
 refine gO Tryz.func5 ?_;refine ar (c3) ?_;refine gO Tryz.func5 ?_;cases hv:ez h&&iK x
 ·rw [show fa (fk h x) h x=[] by simp [fa,hv],show kV h x=1 by simp [kV,hv]];refine bg (by decide) ?_;repeat' (first | with_reducible refine ar (c2) ?_ | with_reducible refine aR (c2) ?_ | with_reducible refine cY ?_ | with_reducible refine cN ?_ | with_reducible refine aj (fun _=>?_) (fun _=>?_) | refine gA Tryz.func5 ?_ | refine gB ?_ | with_reducible rfl)
  rfl
 rw [show kV h x=0 by simp [kV,hv]];refine aW (by decide) ?_;have nO:ez h=true∧iK x=true:=by simpa using hv
 have hd:0≤h.bM∧h.bM≤1000:=by have:=nO.1; simp [ez] at this; omega
 obtain ⟨g,o0⟩:∃ g:bN,g={ h with bM:=min 1000 (h.bM+more) }:=⟨_,rfl⟩;have c4:=KN g x (by subst o0; exact ⟨f1.aB,f1.anchor,f1.hints,f1.cW⟩) (by subst o0; exact ⟨f4.aB,f4.aG,f4.hints,f4.anchor,f4.cW⟩) jb;have KO:ez g=true:=by
  have:=nO.1;subst o0;simp only [ez,Bool.and_eq_true,decide_eq_true_eq] at this ⊢;obtain ⟨⟨⟨⟨⟨⟨⟨⟨b1,b2⟩,b3⟩,b4⟩,b5⟩,b6⟩,b7⟩,b8⟩,b9⟩:=this;exact ⟨⟨⟨⟨⟨⟨⟨⟨b1,b2⟩,by omega⟩,by omega⟩,b5⟩,b6⟩,b7⟩,b8⟩,b9⟩
 have Vd:kV g x=0:=by simp [kV,KO,nO.2]
 rw [Vd] at c4;have Ve:∀ k∈fa (fk h x) h x,k∈fa (fk g x) g x:=fun k hk=>by
  rw [KJ] at hk ⊢;obtain ⟨h1,i,e,hi,hc⟩:=hk;refine ⟨by simp only [KO,nO.2]; simpa [nO.1,nO.2] using h1,i,e,by rw [o0]; exact hi,UY (by rw [o0]) (by rw [o0]) (by rw [o0]; show h.bM≤min 1000 (h.bM+more); omega) hc⟩
 have Vf:∀ k∈fa (fk h x) h x,0≤k∧k<h.aB.length∧(x.answer.kind=7∨∃ c∈h.aG,c.host=k∧Nm.fZ x.q.name c.ay.ai=true∧c.bQ≤x.time+h.bM∧x.time - h.bM<c.upto):=fun k hk=>by
  obtain ⟨h1,i,rfl,hi,hc⟩:=KJ.1 hk;exact ⟨by omega,by omega,UZ hc⟩
 have hzero:x.answer.kind=0→fa (fk h x) h x=[]:=fun e=>by
  have:=nO.2;have hz:qd x.answer=true:=by simp only [iK,xe,Bool.and_eq_true,Bool.or_eq_true] at this; simp_all
  simp [fa,hz]
 have w7:=U2 (ask:=fk h x) (h:=h) (x:=x);have Jw:h.aB.length≤64:=by have:=nO.1; simp [ez,fG] at this; omega
 have hlen:∀ g:bN,g.aB=h.aB→(fa (fk g x) g x).length≤64:=fun g e=>by
  unfold fa;split
  ·rw [List.length_map];exact Nat.le_trans (List.length_filter_le ..) (by rw [List.length_range,e]; exact Jw)
  ·simp
 have c5:=fun k=>Ji (fa (fk g x) g x) k (Nat.le_trans (hlen g (by rw [o0])) (by decide));have qB:=hlen h rfl;generalize fa (fk h x) h x=L at *;generalize fa (fk g x) g x=M at *;have aK:g.enc = .agg [.sl (h.aB.map Host.enc),.sl (h.aG.map aX.enc),.str h.anchor.name,.int .i64 h.anchor.type,.int .i64 h.anchor.cV,.sl (h.anchor.data.map Datum.enc),.sl (h.hints.map (.int .i64)),.int .i64 (min 1000 (IntKind.i64.wrap (h.bM+IntKind.i64.wrap more))),.int .i64 h.fin]:=by rw [o0,wrap64 (n:=more) (by omega) (by omega),wrap64 (by omega) (by omega)]
 rw [aK] at c4;refine gO Tryz.func5 ?_;refine I.M5 (Jk G1 (aM rfl)) rfl ?_;refine gO Tryz.func5 ?_;refine ar (c4) ?_;refine gO Tryz.func5 ?_;refine aW (by decide) ?_;refine gO Tryz.func5 ?_;refine aj (fun h7=>?_) (fun h7=>?_)
 ·obtain rfl:=hzero (by simpa using h7);refine gO Tryz.func5 ?_;refine aW rfl ?_;refine gO Tryz.func5 ?_;refine I.jV ?_;refine I.run ag Tryz.func5 2000 ?_;(conv=>whnf);refine aW rfl ?_;refine gO Tryz.func5 ?_
  with_reducible rfl
 refine gO Tryz.func5 ?_;refine aN ?_;refine gO Tryz.func5 ?_;have ht:0≤x.time∧x.time≤10000000:=by have:=nO.2; simp [iK] at this; omega
 have Bh:∀ c∈h.aG,Nm.valid c.ay.ai=true:=fun c hc=>by
  have:=nO.1;simp only [ez,Bool.and_eq_true] at this;have:=List.all_eq_true.1 this.1.1.2 c hc;simp only [mv,Bool.and_eq_true] at this;exact I3 this.2
 refine I.loop (κ:=Nat) ([6,13,14,15,17]++rg 87 88) (fun k=>[(87,.d (.int .i64 k))]) (fun _=>[]) (fun k=>k≤L.length) (fun k=>L.length - k) 0 (Nat.zero_le _) ?_ ?_
 ·exact sZ
 intro k hk IH;refine I.head ag Tryz.func5 2000 ?_;(conv=>whnf);refine aj (fun h8=>?_) (fun h8=>?_)
 ·have ah:k<L.length:=by simpa using h8
  obtain ⟨v,hv⟩:=aU ah;have KP:=List.mem_of_getElem? hv;obtain ⟨v1,v2,v3⟩:=Vf v KP;have c6:=c5 v;rw [decide_eq_true (Ve v KP)] at c6;refine gO Tryz.func5 ?_;refine aT (e := .int .i64 v) (bu hv) rfl ?_;refine gO Tryz.func5 ?_;refine aW (by simpa using v1) ?_;refine gO Tryz.func5 ?_;refine aW (by simpa using v2) ?_;refine gO Tryz.func5 ?_;refine aj (fun h9=>?a) (fun h9=>?b)
  case' a =>
   have h9:0<k:=by simpa using h9
   obtain ⟨w,hw⟩:=aU (l:=L) (k:=k - 1) (by omega);have sh:w<v:=by
    have:=List.pairwise_iff_getElem.1 w7 (k - 1) k (by omega) ah (by omega)
    rwa [(List.getElem?_eq_some_iff.1 hw).2,(List.getElem?_eq_some_iff.1 hv).2] at this
   refine gO Tryz.func5 ?_;refine aT (e := .int .i64 w) (by rw [wrap64 (by omega) (by omega),show ((k:Int) - 1)=((k - 1:Nat):Int) by omega]; exact bu hw) rfl ?_;refine gO Tryz.func5 ?_;refine aW (by simpa using sh) ?_
  case' b =>
   refine gO Tryz.func5 ?_;refine aN ?_
  all_goals
   refine gO Tryz.func5 ?_;repeat' (first | with_reducible refine ar (c6) ?_ | with_reducible refine aR (c6) ?_ | with_reducible refine cY ?_ | with_reducible refine cN ?_ | with_reducible refine aj (fun _=>?_) (fun _=>?_) | refine gA Tryz.func5 ?_ | refine gB ?_ | with_reducible rfl)
   refine gO Tryz.func5 ?_;refine I.loop (κ:=Nat) ([15,17]++rg 127 45) (fun j=>[(127,.d (.int .i64 j)),(15,.d (.bool (x.answer.kind==7||(h.aG.take j).any (mK x h.bM v))))]) (fun _=>[]) (fun j=>j≤h.aG.length) (fun j=>h.aG.length - j) 0 (Nat.zero_le _) ?_ ?_
   ·(conv=>whnf);repeat (first | exact trivial | (refine sI ?_; conv=>whnf))
    refine And.intro (by simp) ?_;exact sZ
   intro j hj JH;refine I.head ag Tryz.func5 2000 ?_;(conv=>whnf);refine aj (fun g8=>?_) (fun g8=>?_)
   ·have lk:j<h.aG.length:=by simpa using g8
    obtain ⟨c,hc⟩:=aU lk;have c8:=Vb v c.ay x.q.name v1 (by omega) (Bh c (List.mem_of_getElem? hc));have dJ:(x.answer.kind==7||(h.aG.take (j+1)).any (mK x h.bM v))=((x.answer.kind==7||(h.aG.take j).any (mK x h.bM v))||mK x h.bM v c):=by rw [dm hc,List.any_append,Bool.or_assoc]; simp
    generalize (x.answer.kind==7||(h.aG.take j).any (mK x h.bM v))=sv at *;refine gO Tryz.func5 ?_;refine aT (e:=c.enc) (bu hc) rfl ?_;refine gO Tryz.func5 ?_;cases sv
    ·refine aN ?_;refine gO Tryz.func5 ?_;cases e1:c.host==v
     ·refine aN ?_;refine gO Tryz.func5 ?_;refine aN ?_;refine gO Tryz.func5 ?_;refine aN ?_;refine gO Tryz.func5 ?_;refine I.back (JH (j+1) (by omega) (by omega)) ?_;rw [dJ];(conv=>whnf);repeat (first | exact trivial | (refine sI ?_; conv=>whnf))
      refine And.intro (by simp [mK,e1]) ?_;exact sZ
     refine aY ?_;refine gO Tryz.func5 ?_;cases e2:decide (c.bQ≤IntKind.i64.wrap (x.time+h.bM))
     ·refine aN ?_;refine gO Tryz.func5 ?_;refine aN ?_;refine gO Tryz.func5 ?_;rw [wrap64 (by omega) (by omega)] at e2;refine I.back (JH (j+1) (by omega) (by omega)) ?_;rw [dJ];(conv=>whnf);repeat (first | exact trivial | (refine sI ?_; conv=>whnf))
      refine And.intro (by simp [mK,e2]) ?_;exact sZ
     refine aY ?_;refine gO Tryz.func5 ?_;cases e3:decide (c.upto>IntKind.i64.wrap (x.time - h.bM))
     ·refine aN ?_;refine gO Tryz.func5 ?_;rw [wrap64 (by omega) (by omega)] at e3;refine I.back (JH (j+1) (by omega) (by omega)) ?_;rw [dJ];(conv=>whnf);repeat (first | exact trivial | (refine sI ?_; conv=>whnf))
      refine And.intro (by simp [mK,e3]) ?_;exact sZ
     refine aY ?_;refine gO Tryz.func5 ?_;refine ar (c8) ?_;refine gO Tryz.func5 ?_;rw [wrap64 (by omega) (by omega)] at e2 e3;refine I.back (JH (j+1) (by omega) (by omega)) ?_;rw [dJ];(conv=>whnf);repeat (first | exact trivial | (refine sI ?_; conv=>whnf))
     refine And.intro (by cases hu:Nm.under x.q.name c.ay.ai <;> simp [mK,e1,e2,e3,hu]) ?_;exact sZ
    ·refine aY ?_;refine gO Tryz.func5 ?_;refine I.back (JH (j+1) (by omega) (by omega)) ?_;rw [dJ];(conv=>whnf);repeat (first | exact trivial | (refine sI ?_; conv=>whnf))
     refine And.intro (by simp) ?_;exact sZ
   ·have aK:j=h.aG.length:=by simp at g8; omega
    subst aK;have tN:(x.answer.kind==7||h.aG.any (mK x h.bM v))=true:=by
     rcases v3 with e | ⟨c,u1,u2,u3,u4,u5⟩
     ·simp [e]
     ·simp only [Nm.fZ,Bool.and_eq_true] at u3;rw [Bool.or_eq_true,List.any_eq_true];exact .inr ⟨c,u1,by simp [mK,u2,u3.2,u4,u5]⟩
    rw [List.take_length,tN];refine gO Tryz.func5 ?_;refine aW rfl ?_;refine gO Tryz.func5 ?_;refine I.back (IH (k+1) (by omega) (by omega)) ?_;exact sZ
 ·have aK:k=L.length:=by simp at h8; omega
  subst aK;refine gO Tryz.func5 ?_
  with_reducible rfl
theorem Vg (x:bN) (y:c9) (n:Int) (g0:x.Good) (g1:y.Good) (g2:zw n):au E 5 [x.enc,y.enc,.int .u16 n] (· = .bool true):=Vc x y n g0 g1 (by unfold zw at g2; omega)
end Go.Proofs.YtfmdaiojokniiaaGreatDoor.P
end
