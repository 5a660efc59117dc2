/- Several texts of mine, one behind the other. Conditions: as each says. -/
import Derived.Test.YtfmdaiojokniiaaGreatDoorW43
import Derived.Test.YtfmdaiojokniiaaGreatDoorW47
set_option linter.unusedVariables false
set_option linter.unusedSimpArgs false
namespace Go.Proofs.YtfmdaiojokniiaaGreatDoor.P
open Go Go.aw Go.Sort Go.RowKit
set_option maxRecDepth 100000
set_option maxHeartbeats 4000000
theorem UI (h:Host) (addr:Int):aq E 81 [.cells [.d (.int .i64 addr)]] [.d h.enc,.ptr 0 0] (fun a b=>a = .d (.bool (h.addr==addr))∧b=[.cells [.d (.int .i64 addr)]]):=by
 obtain ⟨n,d,o⟩:=h;show aq E _ _ [.d (DV.agg [.str n,.int .i64 d,.int .i64 o]),_] _;apply aq.jD
 case hk=>rfl
 refine aq.run ag (fn:=Tryz.f81) Tryz.func81 (body:=Tryz.f81.body.getD .skip) rfl (by decide) 2000 rfl ?_;(conv=>whnf);exact ⟨rfl,rfl⟩
def mH (l:List Host) (addr:Int):Int:=match l.findIdx? (·.addr==addr) with
 |some i=>i
 |none => -1
theorem UJ {l:List Host} {addr:Int} {k:Nat} {x:Host} (hk:l[k]? = some x) (hx:(x.addr==addr)=true) (cj:∀ (j:Nat) (y:Host),j<k→l[j]? = some y→(y.addr==addr)=false):mH l addr=k:=by
 have:l.findIdx? (·.addr==addr)=some k:=by
  rw [List.findIdx?_eq_some_iff_getElem];obtain ⟨h1,rfl⟩:=List.getElem?_eq_some_iff.1 hk;exact ⟨h1,hx,fun j hj=>by simpa using cj j l[j] hj (by simp)⟩
 simp [mH,this]
theorem UK {l:List Host} {addr:Int} (cj:∀ (j:Nat) (y:Host),l[j]? = some y→(y.addr==addr)=false):mH l addr = -1:=by
 have:l.findIdx? (·.addr==addr)=none:=by
  rw [List.findIdx?_eq_none_iff];intro x hx;obtain ⟨j,hj⟩:=List.getElem?_of_mem hx;exact cj j x hj
 simp [mH,this]
theorem UL (l:List Host) (addr:Int) (hl:l.length≤1000000):aq E 80 [.cells [.d (.int .i64 addr)]] [.d (.sl (l.map Host.enc)),.fn (.func 81) [] [.ptr 0 0]] (fun a b=>a = .d (.int .i64 (mH l addr))∧b=[.cells [.d (.int .i64 addr)]]):=by
 refine aq.run ag (fn:=Tryz.f80) Tryz.func80 (body:=Tryz.f80.body.getD .skip) rfl (by decide) 2000 rfl ?_;(conv=>whnf);refine I.loop (κ:=Nat) ([4,5]++rg 8 11) (fun k=>[(8,.d (.int .i64 k))]) (fun _=>[]) (fun k=>k≤l.length∧∀ j y,j<k→l[j]? = some y→(y.addr==addr)=false) (fun k=>l.length - k) 0 ⟨Nat.zero_le _,fun j y h=>by omega⟩ ?_ ?_
 ·exact sZ
 rintro k ⟨hk,cj⟩ IH;refine I.head ag Tryz.func80 2000 ?_;(conv=>whnf);refine aj (fun h5=>?_) (fun h5=>?_)
 ·have ah:k<l.length:=by simpa using h5
  obtain ⟨x,hx⟩:=aU ah;have c1:=UI x addr;refine gO Tryz.func80 ?_;refine aT (e:=x.enc) (bu hx) rfl ?_;refine gO Tryz.func80 ?_
  with_reducible refine bC (c1) ?_
  refine gO Tryz.func80 ?_;cases hp:x.addr==addr
  ·refine aN ?_;refine gO Tryz.func80 ?_;refine I.back (IH (k+1) ⟨by omega,fun j y h1 h2=>(Nat.lt_succ_iff_lt_or_eq.1 h1).elim (fun h=>cj j y h h2) fun e=>by subst e; rw [hx] at h2; cases h2; exact hp⟩ (by omega)) ?_;exact sZ
  ·refine aY ?_;refine gO Tryz.func80 ?_;exact ⟨by rw [UJ hx hp cj],rfl⟩
 ·have aK:l.length≤k:=by simpa using h5
  refine gO Tryz.func80 ?_;exact ⟨by rw [UK fun j y h=>cj j y (by have:=aP h; omega) h],rfl⟩
theorem UM (k:Int) (q:br) (p:bj) (h1:q.name.length≤maxLen) (h2:p.ay.ai.length≤maxLen):aq E 83 [.cells [.d (.int .i64 k)],.cells [.d (.str q.name),.d (.int .i64 q.type)]] [.d p.enc,.ptr 0 0,.ptr 1 0] (fun a b=>a = .d (.bool (p.host==k&&Nm.fZ q.name p.ay.ai))∧b=[.cells [.d (.int .i64 k)],.cells [.d (.str q.name),.d (.int .i64 q.type)]]):=by
 have c1:=J6 q.name p.ay.ai h1 h2;obtain ⟨ph,⟨za,zs⟩⟩:=p;simp only at c1 ⊢;show aq E _ _ [.d (DV.agg [.int .i64 ph,.str za,.sl (zs.map Signed.enc)]),_,_] _;apply aq.jD
 case hk=>rfl
 refine aq.run ag (fn:=Tryz.f83) Tryz.func83 (body:=Tryz.f83.body.getD .skip) rfl (by decide) 2000 rfl ?_;(conv=>whnf);cases hp:ph==k
 ·refine aN ?_;refine gO Tryz.func83 ?_;exact ⟨by rw [Bool.false_and],rfl⟩
 ·refine aY ?_;refine gO Tryz.func83 ?_;refine ar (c1) ?_;refine gO Tryz.func83 ?_;exact ⟨by rw [Bool.true_and],rfl⟩
def jI (z:aF):Int:=(Nm.labels z.ai).length
def KD:DV→Text
 | .agg (.str a::_)=>a
 |_=>[]
def uw (x y:DV):Int:=((Nm.labels (KD y)).length:Int) - (Nm.labels (KD x)).length
theorem UN (a b:aF) (ha:Nm.valid a.ai=true) (hb:Nm.valid b.ai=true):au E 86 [a.enc,b.enc] (· = .int .i64 (uw a.enc b.enc)):=by
 have c1:=J7 a.ai (by have:=fD ha; exact l7 (by omega)) ha;have c2:=J7 b.ai (by have:=fD hb; exact l7 (by omega)) hb;have l1:=CM ha;have l2:=CM hb;obtain ⟨aa,sa⟩:=a;obtain ⟨ba,sb⟩:=b;simp only at *;show au E _ [DV.agg [.str aa,.sl (sa.map Signed.enc)],DV.agg [.str ba,.sl (sb.map Signed.enc)]] _;refine eP Tryz.func86 ?_;refine I.bU ag bV 2000 (by kernel_rfl) ?_;(conv=>whnf);refine aR (c2) ?_;refine gD ?_;refine aR (c1) ?_;refine gD ?_;refine gO Tryz.func86 ?_;refine congrArg (DV.int .i64) ?_;show IntKind.i64.wrap _=_;rw [wrap64 (by omega) (by omega)];rfl
theorem UO:Ek Tryz.prog 85 86 2 Kz:=fun n enc cf hk h1 hO blk cap d w hc hH hblk bK=>by
 have eg:∀ args w,(callFunc 86 args).run Tryz.prog w = .ok (.enter 86 args) w:=enters_of Tryz.func86 (by kernel_rfl) rfl;exact AnyQ.slices_SortFunc Tryz.QL 2 Tryz.isAgg59 Tryz.sizeOf59 enc hk h1 cf hO 86 #[] blk 0 cap d w eg (fun m os dk hs x y=>hc m os dk hs x y) hH hblk bK
theorem UP (l:List aF) (hl:l≠[]) (hlen:l.length<4611686018427387904) (hv:∀ z∈l,Nm.valid z.ai=true) :
  aq E 85 [.arr 0 (59,2) (l.map aF.enc)] [.own 0 0,.fn (.func 86) [] []] (fun a b=>a = .az []∧∃ l':List aF,l'.Perm l∧l'.Pairwise (fun x y=>jI y≤jI x)∧b=[.arr 0 (59,2) (l'.map aF.enc)]):=by
 have h:=UE (E:=E) (t:=59) aF.enc uw UO ⟨_,Tryz.func85,rfl,by decide⟩ l hl hlen (fun x hx=>rfl)
  ⟨fun x _=>by unfold uw; omega,fun x _ y _ z _=>by unfold uw; omega,fun x _ y _ z _=>by unfold uw; omega⟩
  (fun x hx=>UD _) (fun x hx y hy=>UN x y (hv x hx) (hv y hy))
 refine h.mono fun a b ⟨ha,l',hp,hs,hb⟩=>⟨ha,l',hp,hs.imp fun {x y} h=>?_,hb⟩;have e:uw y.enc x.enc=jI x - jI y:=rfl;omega
def fc (l:List bj) (k:Int) (n:Text):List aF:=(l.filter fun p=>p.host==k&&Nm.fZ n p.ay.ai).map (·.ay)
theorem UQ {l:List bj} {k:Int} {n:Text} {j:Nat} {x:bj} (h:l[j]? = some x):fc (l.take (j+1)) k n=fc (l.take j) k n++(if x.host==k&&Nm.fZ n x.ay.ai then [x.ay] else []):=by
 rw [fc,dm h,List.filter_append,List.map_append];cases e:x.host==k&&Nm.fZ n x.ay.ai <;> simp [e,fc]
theorem z8 {l:List bj} {k:Int} {n:Text} {z:aF}:z∈fc l k n↔∃ p∈l,p.host=k∧Nm.fZ n p.ay.ai=true∧p.ay=z:=by
 simp only [fc,List.mem_map,List.mem_filter,Bool.and_eq_true,beq_iff_eq];exact ⟨fun ⟨p,⟨h1,h2,h3⟩,h4⟩=>⟨p,h1,h2,h3,h4⟩,fun ⟨p,h1,h2,h3,h4⟩=>⟨p,⟨h1,h2,h3⟩,h4⟩⟩
def mI (l:List aF):List aF:=l.mergeSort fun a b=>decide (jI b≤jI a)
theorem UR {l:List bj} {k:Int} {n:Text} {L:List aF} (hl:(l.map bj.spot).Nodup) (hp:L.Perm (fc l k n)) (hs:L.Pairwise (fun x y=>jI y≤jI x)):L=mI (fc l k n):=by
 have h1:(mI (fc l k n)).Perm (fc l k n):=List.mergeSort_perm _ _;have h2:(mI (fc l k n)).Pairwise (fun x y=>jI y≤jI x):=(List.pairwise_mergeSort (le:=fun a b:aF=>decide (jI b≤jI a)) (fun a b c h1 h2=>by simp at *; omega) (fun a b=>by simp; omega) _).imp fun {a b} h=>by simpa using h
 refine (hp.trans h1.symm).eq_of_pairwise (fun a b ha hb p q=>?_) hs h2;obtain ⟨x,x1,x2,x3,rfl⟩:=z8.1 (hp.mem_iff.1 ha);obtain ⟨y,y1,y2,y3,rfl⟩:=z8.1 (h1.mem_iff.1 hb);have e:x.ay.ai=y.ay.ai:=by
  simp only [Nm.fZ,Bool.and_eq_true] at x3 y3;have u1:Nm.labels x.ay.ai <:+ Nm.labels n:=by simpa [Nm.under] using x3.2
  have u2:Nm.labels y.ay.ai <:+ Nm.labels n:=by simpa [Nm.under] using y3.2
  unfold jI at p q;exact Hi ((List.suffix_of_suffix_length_le u1 u2 (by omega)).eq_of_length (by omega))
 obtain ⟨i,hi⟩:=List.getElem?_of_mem x1;obtain ⟨j,hj⟩:=List.getElem?_of_mem y1;have:i=j:=(List.getElem?_inj (by simpa using aP hi) hl).1 (by rw [List.getElem?_map,List.getElem?_map,hi,hj]; simp [bj.spot,x2,y2,e]);subst this;rw [hi] at hj;cases hj;rfl
def mJ (q:br):List aF→Option aF
 | []=>none
 | [z]=>some z
 |z::y::_=>some (if q.type=6∧z.ai=q.name then y else z)
def ux (l:List bj) (k:Int) (q:br):dj × Int:=match mJ q (mI (fc l k q.name)) with
 |none=>(⟨7,[],[]⟩,0)
 |some z=>(jG z q,mD z q)
theorem US (w:kP) (addr:Int) (q:br) (hf:w.Fits) (hw:nH w=true) (hq:iI q=true) (iY:q.name.length≤maxLen) (hk:0≤mH w.aB addr):au E 31 [w.enc,.int .i64 addr,q.enc] (· = .az [(ux w.cW (mH w.aB addr) q).1.enc,.int .i64 (ux w.cW (mH w.aB addr) q).2]):=by
 refine au.norm ?_;have c1:=D9 w hf;have c2:=DI q iY;rw [hw] at c1;rw [hq] at c2;have c3:=UL w.aB addr (by simp [nH,fG] at hw; omega);have nW:kS w.aB.length w.cW=true:=by simp [nH] at hw; exact hw.1.2
 obtain ⟨p1,p2,p3,-⟩:=IU.1 nW;have fq:=hf.cW;obtain ⟨aB,cW,a,hints⟩:=w;obtain ⟨qn,qt⟩:=q;simp only at *;generalize mH aB addr=k at *;show au E _ [DV.agg [.sl (aB.map Host.enc),.sl (cW.map bj.enc),.str a.name,.int .i64 a.type,.int .i64 a.cV,.sl (a.data.map Datum.enc),.sl (hints.map (.int .i64))],_,.agg [.str qn,.int .i64 qt]] _;refine eP Tryz.func31 ?_;refine ar (c1) ?_;refine gO Tryz.func31 ?_;refine aN ?_;refine gO Tryz.func31 ?_;refine ar (c2) ?_;refine gO Tryz.func31 ?_;refine aN ?_;refine gO Tryz.func31 ?_
 with_reducible refine bC (c3) ?_
 refine gO Tryz.func31 ?_;refine aW (by simp; omega) ?_;(conv=>whnf);repeat ((fail_if_success (first | (refine I.np 5 0 (59,2) (by decide) rfl rfl ?_) | fail)); (refine I.run ag Tryz.func31 1 ?_); (conv=>whnf))
 refine I.np 5 0 (59,2) (by decide) rfl rfl ?_;(conv=>whnf);(conv=>whnf);(conv=>whnf);repeat ((fail_if_success (first | (refine I.lL (fn:=Tryz.f82) rfl rfl lI (lK (aM rfl) (aM rfl)) Tryz.func82 rfl (by decide) ?_) | fail)); (refine I.run ag Tryz.func31 1 ?_); (conv=>whnf))
 refine I.lL (fn:=Tryz.f82) rfl rfl lI (lK (aM rfl) (aM rfl)) Tryz.func82 rfl (by decide) ?_;(conv=>whnf);(conv=>whnf);repeat ((fail_if_success (first | (refine I.lM ag Tryz.func82 rfl rfl rfl (L:=[]) rfl ?_) | fail)); (refine I.run ag Tryz.func82 1 ?_); (conv=>whnf))
 refine I.lM ag Tryz.func82 rfl rfl rfl (L:=[]) rfl ?_;(conv=>whnf);(conv=>whnf);repeat ((fail_if_success (first | (refine I.rangeFunc (aM rfl) Tryz.func151 rfl (by decide) rfl (fun ll d t=>?_)) | fail)); (refine I.run ag Tryz.func31 1 ?_); (conv=>whnf))
 refine I.rangeFunc (aM rfl) Tryz.func151 rfl (by decide) rfl (fun ll d t=>?_);(conv=>whnf);refine gO Tryz.func151 ?_;refine I.loop (κ:=Nat) ([4,5]++rg 9 16) (fun j=>[(9,.d (.int .i64 j))]) (fun j=>[(5,.cells [.own 6 1]),(6,.arr 1 (59,2) ((fc (cW.take j) k qn).map aF.enc))]) (fun j=>j≤cW.length) (fun j=>cW.length - j) 0 (Nat.zero_le _) ?_ ?_
 ·(conv=>whnf);repeat (first | exact trivial | (rw [fI]; conv=>whnf) | (refine sI ?_; conv=>whnf))
  refine And.intro rfl ?_;(conv=>whnf);repeat (first | exact trivial | (rw [fI]; conv=>whnf) | (refine sI ?_; conv=>whnf))
 intro j hj IH;refine I.head ag Tryz.func151 2000 ?_;(conv=>whnf);refine aj (fun h8=>?_) (fun h8=>?_)
 ·have ah:j<cW.length:=by simpa using h8
  obtain ⟨x,hx⟩:=aU ah;have jb:=fq x (List.mem_of_getElem? hx);have c4:=UM k ⟨qn,qt⟩ x iY jb.ai;have dJ:=UQ (k:=k) (n:=qn) hx;have hlen:(fc (cW.take j) k qn).length≤j:=by rw [fc,List.length_map]; exact Nat.le_trans (List.length_filter_le ..) (by simp; omega)
  generalize fc (cW.take j) k qn=Y at *;obtain ⟨xh,xa,xs⟩:=x;simp only at c4 dJ;refine gO Tryz.func151 ?_;refine aT (e:=bj.enc ⟨xh,xa,xs⟩) (bu hx) rfl ?_;refine gO Tryz.func151 ?_
  with_reducible refine bC (c4) ?_
  refine gO Tryz.func151 ?_;cases hp:(xh==k&&Nm.fZ qn xa)
  ·rw [hp] at dJ;simp only [Bool.false_eq_true,if_false,List.append_nil] at dJ;refine aN ?_;refine gO Tryz.func151 ?_;refine aN ?_;refine gO Tryz.func151 ?_;refine I.back (IH (j+1) (by omega) (by omega)) ?_;rw [dJ];(conv=>whnf);repeat (first | exact trivial | (rw [fI]; conv=>whnf) | (refine sI ?_; conv=>whnf))
  ·rw [hp] at dJ;refine aY ?_;(conv=>whnf);repeat ((fail_if_success (first | (refine I.zI 0 rfl (zJ rfl rfl rfl rfl) rfl (aM rfl) (lK (aM rfl) (aM rfl)) rfl ?_) | fail)); (refine I.run ag Tryz.func151 1 ?_); (conv=>whnf))
   refine I.zI 0 rfl (zJ rfl rfl rfl rfl) rfl (aM rfl) (lK (aM rfl) (aM rfl)) rfl ?_;(conv=>whnf);refine gO Tryz.func31 ?_;refine I.begin 0 rfl rfl rfl ?_;(conv=>whnf);refine gO Tryz.func31 ?_;refine bp ⟨by simp; omega,by simp [DV.cells]⟩ ?_;refine gO Tryz.func31 ?_;refine I.mj 0 rfl rfl rfl ?_;(conv=>whnf);refine gO Tryz.func151 ?_;refine aY ?_;refine gO Tryz.func151 ?_;refine aN ?_;refine gO Tryz.func151 ?_;refine I.back (IH (j+1) (by omega) (by omega)) ?_;rw [dJ,if_pos rfl,List.map_append];(conv=>whnf);repeat (first | exact trivial | (rw [fI]; conv=>whnf) | (refine sI ?_; conv=>whnf))
   refine And.intro rfl ?_;(conv=>whnf);repeat (first | exact trivial | (rw [fI]; conv=>whnf) | (refine sI ?_; conv=>whnf))
 ·have aK:j=cW.length:=by simp at h8; omega
  subst aK;rw [List.take_length];refine gO Tryz.func151 ?_;refine I.iC ag Tryz.func151 rfl rfl rfl rfl (fun e=>nomatch e) ?_;(conv=>whnf);have Db:∀ z∈fc cW k qn,z.Fits∧Nm.valid z.ai=true:=fun z hz=>by
   obtain ⟨p,h1,-,-,rfl⟩:=z8.1 hz;have h4:=p2 p h1;simp only [mu,Bool.and_eq_true] at h4;exact ⟨fq p h1,I3 h4.2⟩
  have dS:(fc cW k qn).length≤4000:=by rw [fc,List.length_map]; exact Nat.le_trans (List.length_filter_le ..) (by simpa using p1)
  have bK:∀ L:List aF,L.Perm (fc cW k qn)→L.Pairwise (fun x y=>jI y≤jI x)→L=mI (fc cW k qn):=fun L h1 h2=>UR p3 h1 h2;unfold ux;generalize fc cW k qn=C at *;cases C with
  |nil =>
   refine I.freeze 6 ?_;(conv=>whnf);conv =>
    arg 3
    try whnf
    try conv=>arg 1; whnf
    try conv=>arg 2; whnf
    try conv=>arg 3; whnf
    try conv=>arg 3; arg 2; whnf
    try conv=>arg 4; whnf
    try conv=>arg 4; arg 1; whnf
    try conv=>arg 4; arg 2; whnf
    try conv=>arg 4; arg 3; whnf
    try conv=>arg 4; arg 4; whnf
    try conv=>arg 4; arg 4; arg 2; whnf
    try conv=>arg 4; arg 4; arg 1; arg 1; whnf
    try conv=>arg 4; arg 4; arg 1; arg 1; arg 2; whnf
    try conv=>arg 4; arg 4; arg 1; arg 1; arg 3; whnf
    try conv=>arg 4; arg 4; arg 1; arg 1; arg 3; arg 2; whnf
    try conv=>arg 4; arg 5; whnf
    try conv=>arg 4; arg 5; arg 2; whnf
    try conv=>arg 4; arg 6; whnf
   refine gO Tryz.func31 ?_;refine aY ?_;refine gO Tryz.func31 ?_;refine I.fP ag Tryz.func31 rfl rfl rfl rfl rfl ?_;rw [show mI []=[] from List.mergeSort_nil];rfl
  |cons z C =>
   have c5:=UP (z::C) (by simp) (by simp at dS ⊢; omega) (fun z hz=>(Db z hz).2);refine gO Tryz.func31 ?_;refine aW (by simp; omega) ?_;refine gO Tryz.func31 ?_;refine iT c5 ?_;rintro _ _ ⟨rfl,L,Aa,UT,rfl⟩;obtain rfl:=bK L Aa UT;have UU:mI (z::C)≠[]:=fun e=>by rw [e] at Aa; exact absurd Aa.length_eq (by simp)
   have KE:∀ y∈mI (z::C),y.Fits:=fun y hy=>(Db y (Aa.mem_iff.1 hy)).1;generalize mI (z::C)=L at *;(conv=>whnf);refine I.freeze 6 ?_;(conv=>whnf);conv =>
    arg 3
    try whnf
    try conv=>arg 1; whnf
    try conv=>arg 2; whnf
    try conv=>arg 3; whnf
    try conv=>arg 3; arg 2; whnf
    try conv=>arg 4; whnf
    try conv=>arg 4; arg 1; whnf
    try conv=>arg 4; arg 2; whnf
    try conv=>arg 4; arg 3; whnf
    try conv=>arg 4; arg 4; whnf
    try conv=>arg 4; arg 4; arg 2; whnf
    try conv=>arg 4; arg 4; arg 1; arg 1; whnf
    try conv=>arg 4; arg 4; arg 1; arg 1; arg 2; whnf
    try conv=>arg 4; arg 4; arg 1; arg 1; arg 3; whnf
    try conv=>arg 4; arg 4; arg 1; arg 1; arg 3; arg 2; whnf
    try conv=>arg 4; arg 5; whnf
    try conv=>arg 4; arg 5; arg 2; whnf
    try conv=>arg 4; arg 6; whnf
   cases L with
   |nil=>exact absurd rfl UU
   |cons y L =>
    have c6:=D7 y ⟨qn,qt⟩ (KE y (by simp)) iY;refine gO Tryz.func31 ?_;refine aT (e:=y.enc) ⟨by omega,rfl⟩ rfl ?_;cases L with
    |nil =>
     have hP:mJ ⟨qn,qt⟩ [y]=some y:=rfl;generalize mJ ⟨qn,qt⟩ [y]=Pz at *;subst hP;refine gO Tryz.func31 ?_;cases UW:qt==6
     ·repeat' (first | with_reducible refine ar (c6) ?_ | with_reducible refine aR (c6) ?_ | with_reducible refine cY ?_ | with_reducible refine cN ?_ | with_reducible refine aj (fun _=>?_) (fun _=>?_) | refine gA Tryz.func31 ?_ | refine gB ?_ | with_reducible rfl)
      (conv=>whnf);refine gO Tryz.func31 ?_;refine I.fP ag Tryz.func31 rfl rfl rfl rfl rfl ?_;rfl
     ·refine aY ?_;refine gO Tryz.func31 ?_;cases nS:y.ai==qn
      ·repeat' (first | with_reducible refine ar (c6) ?_ | with_reducible refine aR (c6) ?_ | with_reducible refine cY ?_ | with_reducible refine cN ?_ | with_reducible refine aj (fun _=>?_) (fun _=>?_) | refine gA Tryz.func31 ?_ | refine gB ?_ | with_reducible rfl)
       (conv=>whnf);refine gO Tryz.func31 ?_;refine I.fP ag Tryz.func31 rfl rfl rfl rfl rfl ?_;rfl
      ·refine aY ?_;refine gO Tryz.func31 ?_;refine aW (by simp) ?_;refine gO Tryz.func31 ?_;refine ar (c6) ?_;refine gO Tryz.func31 ?_;(conv=>whnf);refine gO Tryz.func31 ?_;refine I.fP ag Tryz.func31 rfl rfl rfl rfl rfl ?_;rfl
    |cons y2 L =>
     have c7:=D7 y2 ⟨qn,qt⟩ (KE y2 (by simp)) iY;refine gO Tryz.func31 ?_;cases UW:qt==6
     ·repeat' (first | with_reducible refine ar (c6) ?_ | with_reducible refine aR (c6) ?_ | with_reducible refine cY ?_ | with_reducible refine cN ?_ | with_reducible refine aj (fun _=>?_) (fun _=>?_) | refine gA Tryz.func31 ?_ | refine gB ?_ | with_reducible rfl)
      (conv=>whnf);refine gO Tryz.func31 ?_;refine I.fP ag Tryz.func31 rfl rfl rfl rfl rfl ?_;rw [show mJ ⟨qn,qt⟩ (y::y2::L)=some y by simp_all [mJ]];rfl
     ·refine aY ?_;refine gO Tryz.func31 ?_;cases nS:y.ai==qn
      ·repeat' (first | with_reducible refine ar (c6) ?_ | with_reducible refine aR (c6) ?_ | with_reducible refine cY ?_ | with_reducible refine cN ?_ | with_reducible refine aj (fun _=>?_) (fun _=>?_) | refine gA Tryz.func31 ?_ | refine gB ?_ | with_reducible rfl)
       (conv=>whnf);refine gO Tryz.func31 ?_;refine I.fP ag Tryz.func31 rfl rfl rfl rfl rfl ?_;rw [show mJ ⟨qn,qt⟩ (y::y2::L)=some y by simp_all [mJ]];rfl
      ·refine aY ?_;refine gO Tryz.func31 ?_;refine bg (by simp; omega) ?_;refine gO Tryz.func31 ?_;refine aT (e:=y2.enc) ⟨by omega,rfl⟩ rfl ?_;refine gO Tryz.func31 ?_;refine ar (c7) ?_;refine gO Tryz.func31 ?_;(conv=>whnf);refine gO Tryz.func31 ?_;refine I.fP ag Tryz.func31 rfl rfl rfl rfl rfl ?_;rw [show mJ ⟨qn,qt⟩ (y::y2::L)=some y2 by simp_all [mJ]];rfl
end Go.Proofs.YtfmdaiojokniiaaGreatDoor.P
