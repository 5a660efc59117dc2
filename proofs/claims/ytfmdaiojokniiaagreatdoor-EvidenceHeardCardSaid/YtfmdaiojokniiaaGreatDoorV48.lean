/- Several texts of mine, one behind the other. Conditions: as each says. -/
import Derived.Test.YtfmdaiojokniiaaGreatDoorV44
import Derived.Test.YtfmdaiojokniiaaGreatDoorV47
set_option linter.unusedVariables false
set_option linter.unusedSimpArgs false
namespace Go.Proofs.YtfmdaiojokniiaaGreatDoor.P
open Go Go.aw Go.Sort Go.RowKit
set_option maxRecDepth 100000
set_option maxHeartbeats 4000000
theorem Wq (h:Host) (addr:Int):au E 81 [.cells [.d (.int .i64 addr)]] [.d h.enc,.ptr 0 0] (fun a b=>a = .d (.bool (h.addr==addr))∧b=[.cells [.d (.int .i64 addr)]]):=by
 obtain ⟨n,d,o⟩:=h;show au E _ _ [.d (DV.agg [.str n,.int .i64 d,.int .i64 o]),_] _;apply au.kf
 case hk=>rfl
 refine au.run af (fn:=Tryz.f81) Tryz.func81 (body:=Tryz.f81.body.getD .skip) rfl (by decide) 2000 rfl ?_;(conv=>whnf);exact ⟨rfl,rfl⟩
def l4 (l:List Host) (addr:Int):Int:=match l.findIdx? (·.addr==addr) with
 |some i=>i
 |none => -1
theorem LV {l:List Host} {addr:Int} {k:Nat} {x:Host} (hk:l[k]? = some x) (hx:(x.addr==addr)=true) (bL:∀ (j:Nat) (y:Host),j<k→l[j]? = some y→(y.addr==addr)=false):l4 l addr=k:=by
 have:l.findIdx? (·.addr==addr)=some k:=by
  rw [List.findIdx?_eq_some_iff_getElem];obtain ⟨h1,rfl⟩:=List.getElem?_eq_some_iff.1 hk;exact ⟨h1,hx,fun j hj=>by simpa using bL j l[j] hj (by simp)⟩
 simp [l4,this]
theorem Wr {l:List Host} {addr:Int} (bL:∀ (j:Nat) (y:Host),l[j]? = some y→(y.addr==addr)=false):l4 l addr = -1:=by
 have:l.findIdx? (·.addr==addr)=none:=by
  rw [List.findIdx?_eq_none_iff];intro x hx;obtain ⟨j,hj⟩:=List.getElem?_of_mem hx;exact bL j x hj
 simp [l4,this]
theorem Ws (l:List Host) (addr:Int) (hl:l.length≤1000000):au E 80 [.cells [.d (.int .i64 addr)]] [.d (.sl (l.map Host.enc)),.fn (.func 81) [] [.ptr 0 0]] (fun a b=>a = .d (.int .i64 (l4 l addr))∧b=[.cells [.d (.int .i64 addr)]]):=by
 refine au.run af (fn:=Tryz.f80) Tryz.func80 (body:=Tryz.f80.body.getD .skip) rfl (by decide) 2000 rfl ?_;(conv=>whnf);refine I.loop (κ:=Nat) ([4,5]++rg 8 11) (fun k=>[(8,.d (.int .i64 k))]) (fun _=>[]) (fun k=>k≤l.length∧∀ j y,j<k→l[j]? = some y→(y.addr==addr)=false) (fun k=>l.length - k) 0 ⟨Nat.zero_le _,fun j y h=>by omega⟩ ?_ ?_
 ·exact sZ
 rintro k ⟨hk,bL⟩ IH;refine I.head af Tryz.func80 2000 ?_;(conv=>whnf);refine ai (fun h5=>?_) (fun h5=>?_)
 ·have aj:k<l.length:=by simpa using h5
  obtain ⟨x,hx⟩:=aL aj;have c1:=Wq x addr;refine gO Tryz.func80 ?_;refine aE (e:=x.enc) (aX hx) rfl ?_;refine gO Tryz.func80 ?_
  with_reducible refine bD (c1) ?_
  refine gO Tryz.func80 ?_;cases hp:x.addr==addr
  ·refine aQ ?_;refine gO Tryz.func80 ?_;refine I.back (IH (k+1) ⟨by omega,fun j y h1 h2=>(Nat.lt_succ_iff_lt_or_eq.1 h1).elim (fun h=>bL j y h h2) fun e=>by subst e; rw [hx] at h2; cases h2; exact hp⟩ (by omega)) ?_;exact sZ
  ·refine aV ?_;refine gO Tryz.func80 ?_;exact ⟨by rw [LV hx hp bL],rfl⟩
 ·have aC:l.length≤k:=by simpa using h5
  refine gO Tryz.func80 ?_;exact ⟨by rw [Wr fun j y h=>bL j y (by have:=aR h; omega) h],rfl⟩
theorem Wt (k:Int) (q:bj) (p:bo) (h1:q.name.length≤maxLen) (h2:p.az.ah.length≤maxLen):au E 83 [.cells [.d (.int .i64 k)],.cells [.d (.str q.name),.d (.int .i64 q.type)]] [.d p.enc,.ptr 0 0,.ptr 1 0] (fun a b=>a = .d (.bool (p.host==k&&Nm.iB q.name p.az.ah))∧b=[.cells [.d (.int .i64 k)],.cells [.d (.str q.name),.d (.int .i64 q.type)]]):=by
 have c1:=Ll q.name p.az.ah h1 h2;obtain ⟨ph,⟨za,zs⟩⟩:=p;simp only at c1 ⊢;show au E _ _ [.d (DV.agg [.int .i64 ph,.str za,.sl (zs.map Signed.enc)]),_,_] _;apply au.kf
 case hk=>rfl
 refine au.run af (fn:=Tryz.f83) Tryz.func83 (body:=Tryz.f83.body.getD .skip) rfl (by decide) 2000 rfl ?_;(conv=>whnf);cases hp:ph==k
 ·refine aQ ?_;refine gO Tryz.func83 ?_;exact ⟨by rw [Bool.false_and],rfl⟩
 ·refine aV ?_;refine gO Tryz.func83 ?_;refine ao (c1) ?_;refine gO Tryz.func83 ?_;exact ⟨by rw [Bool.true_and],rfl⟩
def km (z:aG):Int:=(Nm.labels z.ah).length
def LW:DV→Text
 | .agg (.str a::_)=>a
 |_=>[]
def vB (x y:DV):Int:=((Nm.labels (LW y)).length:Int) - (Nm.labels (LW x)).length
theorem Wu (a b:aG) (ha:Nm.valid a.ah=true) (hb:Nm.valid b.ah=true):aq E 86 [a.enc,b.enc] (· = .int .i64 (vB a.enc b.enc)):=by
 have c1:=Lm a.ah (by have:=eJ ha; exact lp (by omega)) ha;have c2:=Lm b.ah (by have:=eJ hb; exact lp (by omega)) hb;have l1:=DE ha;have l2:=DE hb;obtain ⟨aa,sa⟩:=a;obtain ⟨ba,sb⟩:=b;simp only at *;show aq E _ [DV.agg [.str aa,.sl (sa.map Signed.enc)],DV.agg [.str ba,.sl (sb.map Signed.enc)]] _;refine eP Tryz.func86 ?_;refine I.bH af bI 2000 (by kernel_rfl) ?_;(conv=>whnf);refine ay (c2) ?_;refine gD ?_;refine ay (c1) ?_;refine gD ?_;refine gO Tryz.func86 ?_;refine congrArg (DV.int .i64) ?_;show IntKind.i64.wrap _=_;rw [wrap64 (by omega) (by omega)];rfl
theorem Wv:Fq Tryz.prog 85 86 2 LQ:=fun n enc cf hk h1 hO blk cap d w hc hH hblk bQ=>by
 have eg:∀ args w,(callFunc 86 args).run Tryz.prog w = .ok (.enter 86 args) w:=enters_of Tryz.func86 (by kernel_rfl) rfl;exact AnyQ.slices_SortFunc Tryz.Sp 2 Tryz.isAgg59 Tryz.sizeOf59 enc hk h1 cf hO 86 #[] blk 0 cap d w eg (fun m os dk hs x y=>hc m os dk hs x y) hH hblk bQ
theorem Ww (l:List aG) (hl:l≠[]) (hlen:l.length<4611686018427387904) (hv:∀ z∈l,Nm.valid z.ah=true) :
  au E 85 [.arr 0 (59,2) (l.map aG.enc)] [.own 0 0,.fn (.func 86) [] []] (fun a b=>a = .aD []∧∃ l':List aG,l'.Perm l∧l'.Pairwise (fun x y=>km y≤km x)∧b=[.arr 0 (59,2) (l'.map aG.enc)]):=by
 have h:=Wm (E:=E) (t:=59) aG.enc vB Wv ⟨_,Tryz.func85,rfl,by decide⟩ l hl hlen (fun x hx=>rfl)
  ⟨fun x _=>by unfold vB; omega,fun x _ y _ z _=>by unfold vB; omega,fun x _ y _ z _=>by unfold vB; omega⟩
  (fun x hx=>Wl _) (fun x hx y hy=>Wu x y (hv x hx) (hv y hy))
 refine h.mono fun a b ⟨ha,l',hp,hs,hb⟩=>⟨ha,l',hp,hs.imp fun {x y} h=>?_,hb⟩;have e:vB y.enc x.enc=km x - km y:=rfl;omega
def eU (l:List bo) (k:Int) (n:Text):List aG:=(l.filter fun p=>p.host==k&&Nm.iB n p.az.ah).map (·.az)
theorem Wx {l:List bo} {k:Int} {n:Text} {j:Nat} {x:bo} (h:l[j]? = some x):eU (l.take (j+1)) k n=eU (l.take j) k n++(if x.host==k&&Nm.iB n x.az.ah then [x.az] else []):=by
 rw [eU,cI h,List.filter_append,List.map_append];cases e:x.host==k&&Nm.iB n x.az.ah <;> simp [e,eU]
theorem yv {l:List bo} {k:Int} {n:Text} {z:aG}:z∈eU l k n↔∃ p∈l,p.host=k∧Nm.iB n p.az.ah=true∧p.az=z:=by
 simp only [eU,List.mem_map,List.mem_filter,Bool.and_eq_true,beq_iff_eq];exact ⟨fun ⟨p,⟨h1,h2,h3⟩,h4⟩=>⟨p,h1,h2,h3,h4⟩,fun ⟨p,h1,h2,h3,h4⟩=>⟨p,⟨h1,h2,h3⟩,h4⟩⟩
def nM (l:List aG):List aG:=l.mergeSort fun a b=>decide (km b≤km a)
theorem Wy {l:List bo} {k:Int} {n:Text} {L:List aG} (hl:(l.map bo.spot).Nodup) (hp:L.Perm (eU l k n)) (hs:L.Pairwise (fun x y=>km y≤km x)):L=nM (eU l k n):=by
 have h1:(nM (eU l k n)).Perm (eU l k n):=List.mergeSort_perm _ _;have h2:(nM (eU l k n)).Pairwise (fun x y=>km y≤km x):=(List.pairwise_mergeSort (le:=fun a b:aG=>decide (km b≤km a)) (fun a b c h1 h2=>by simp at *; omega) (fun a b=>by simp; omega) _).imp fun {a b} h=>by simpa using h
 refine (hp.trans h1.symm).eq_of_pairwise (fun a b ha hb p q=>?_) hs h2;obtain ⟨x,x1,x2,x3,rfl⟩:=yv.1 (hp.mem_iff.1 ha);obtain ⟨y,y1,y2,y3,rfl⟩:=yv.1 (h1.mem_iff.1 hb);have e:x.az.ah=y.az.ah:=by
  simp only [Nm.iB,Bool.and_eq_true] at x3 y3;have u1:Nm.labels x.az.ah <:+ Nm.labels n:=by simpa [Nm.under] using x3.2
  have u2:Nm.labels y.az.ah <:+ Nm.labels n:=by simpa [Nm.under] using y3.2
  unfold km at p q;exact Ik ((List.suffix_of_suffix_length_le u1 u2 (by omega)).eq_of_length (by omega))
 obtain ⟨i,hi⟩:=List.getElem?_of_mem x1;obtain ⟨j,hj⟩:=List.getElem?_of_mem y1;have:i=j:=(List.getElem?_inj (by simpa using aR hi) hl).1 (by rw [List.getElem?_map,List.getElem?_map,hi,hj]; simp [bo.spot,x2,y2,e]);subst this;rw [hi] at hj;cases hj;rfl
def nN (q:bj):List aG→Option aG
 | []=>none
 | [z]=>some z
 |z::y::_=>some (if q.type=6∧z.ah=q.name then y else z)
def l5 (l:List bo) (k:Int) (q:bj):dC × Int:=match nN q (nM (eU l k q.name)) with
 |none=>(⟨7,[],[]⟩,0)
 |some z=>(fJ z q,kj z q)
theorem LX (w:jE) (addr:Int) (q:bj) (hf:w.Fits) (hw:nz w=true) (hq:gr q=true) (jz:q.name.length≤maxLen) (hk:0≤l4 w.aA addr):aq E 31 [w.enc,.int .i64 addr,q.enc] (· = .aD [(l5 w.da (l4 w.aA addr) q).1.enc,.int .i64 (l5 w.da (l4 w.aA addr) q).2]):=by
 refine aq.norm ?_;have c1:=Fe w hf;have c2:=EN q jz;rw [hw] at c1;rw [hq] at c2;have c3:=Ws w.aA addr (by simp [nz,dW] at hw; omega);have oP:lT w.aA.length w.da=true:=by simp [nz] at hw; exact hw.1.2
 obtain ⟨p1,p2,p3,-⟩:=AG.1 oP;have fH:=hf.da;obtain ⟨aA,da,a,hints⟩:=w;obtain ⟨qn,qt⟩:=q;simp only at *;generalize l4 aA addr=k at *;show aq E _ [DV.agg [.sl (aA.map Host.enc),.sl (da.map bo.enc),.str a.name,.int .i64 a.type,.int .i64 a.cD,.sl (a.data.map Datum.enc),.sl (hints.map (.int .i64))],_,.agg [.str qn,.int .i64 qt]] _;refine eP Tryz.func31 ?_;refine ao (c1) ?_;refine gO Tryz.func31 ?_;refine aQ ?_;refine gO Tryz.func31 ?_;refine ao (c2) ?_;refine gO Tryz.func31 ?_;refine aQ ?_;refine gO Tryz.func31 ?_
 with_reducible refine bD (c3) ?_
 refine gO Tryz.func31 ?_;refine aZ (by simp; omega) ?_;(conv=>whnf);repeat ((fail_if_success (first | (refine I.mB 5 0 (59,2) (by decide) rfl rfl ?_) | fail)); (refine I.run af Tryz.func31 1 ?_); (conv=>whnf))
 refine I.mB 5 0 (59,2) (by decide) rfl rfl ?_;(conv=>whnf);(conv=>whnf);(conv=>whnf);repeat ((fail_if_success (first | (refine I.kJ (fn:=Tryz.f82) rfl rfl kG (kH (aP rfl) (aP rfl)) Tryz.func82 rfl (by decide) ?_) | fail)); (refine I.run af Tryz.func31 1 ?_); (conv=>whnf))
 refine I.kJ (fn:=Tryz.f82) rfl rfl kG (kH (aP rfl) (aP rfl)) Tryz.func82 rfl (by decide) ?_;(conv=>whnf);(conv=>whnf);repeat ((fail_if_success (first | (refine I.lI af Tryz.func82 rfl rfl rfl (L:=[]) rfl ?_) | fail)); (refine I.run af Tryz.func82 1 ?_); (conv=>whnf))
 refine I.lI af Tryz.func82 rfl rfl rfl (L:=[]) rfl ?_;(conv=>whnf);(conv=>whnf);repeat ((fail_if_success (first | (refine I.rangeFunc (aP rfl) Tryz.func151 rfl (by decide) rfl (fun ll d t=>?_)) | fail)); (refine I.run af Tryz.func31 1 ?_); (conv=>whnf))
 refine I.rangeFunc (aP rfl) Tryz.func151 rfl (by decide) rfl (fun ll d t=>?_);(conv=>whnf);refine gO Tryz.func151 ?_;refine I.loop (κ:=Nat) ([4,5]++rg 9 16) (fun j=>[(9,.d (.int .i64 j))]) (fun j=>[(5,.cells [.own 6 1]),(6,.arr 1 (59,2) ((eU (da.take j) k qn).map aG.enc))]) (fun j=>j≤da.length) (fun j=>da.length - j) 0 (Nat.zero_le _) ?_ ?_
 ·(conv=>whnf);repeat (first | exact trivial | (rw [fW]; conv=>whnf) | (refine sI ?_; conv=>whnf))
  refine And.intro rfl ?_;(conv=>whnf);repeat (first | exact trivial | (rw [fW]; conv=>whnf) | (refine sI ?_; conv=>whnf))
 intro j hj IH;refine I.head af Tryz.func151 2000 ?_;(conv=>whnf);refine ai (fun h8=>?_) (fun h8=>?_)
 ·have aj:j<da.length:=by simpa using h8
  obtain ⟨x,hx⟩:=aL aj;have jC:=fH x (List.mem_of_getElem? hx);have c4:=Wt k ⟨qn,qt⟩ x jz jC.ah;have eC:=Wx (k:=k) (n:=qn) hx;have hlen:(eU (da.take j) k qn).length≤j:=by rw [eU,List.length_map]; exact Nat.le_trans (List.length_filter_le ..) (by simp; omega)
  generalize eU (da.take j) k qn=Y at *;obtain ⟨xh,xa,xs⟩:=x;simp only at c4 eC;refine gO Tryz.func151 ?_;refine aE (e:=bo.enc ⟨xh,xa,xs⟩) (aX hx) rfl ?_;refine gO Tryz.func151 ?_
  with_reducible refine bD (c4) ?_
  refine gO Tryz.func151 ?_;cases hp:(xh==k&&Nm.iB qn xa)
  ·rw [hp] at eC;simp only [Bool.false_eq_true,if_false,List.append_nil] at eC;refine aQ ?_;refine gO Tryz.func151 ?_;refine aQ ?_;refine gO Tryz.func151 ?_;refine I.back (IH (j+1) (by omega) (by omega)) ?_;rw [eC];(conv=>whnf);repeat (first | exact trivial | (rw [fW]; conv=>whnf) | (refine sI ?_; conv=>whnf))
  ·rw [hp] at eC;refine aV ?_;(conv=>whnf);repeat ((fail_if_success (first | (refine I.yg 0 rfl (yh rfl rfl rfl rfl) rfl (aP rfl) (kH (aP rfl) (aP rfl)) rfl ?_) | fail)); (refine I.run af Tryz.func151 1 ?_); (conv=>whnf))
   refine I.yg 0 rfl (yh rfl rfl rfl rfl) rfl (aP rfl) (kH (aP rfl) (aP rfl)) rfl ?_;(conv=>whnf);refine gO Tryz.func31 ?_;refine I.begin 0 rfl rfl rfl ?_;(conv=>whnf);refine gO Tryz.func31 ?_;refine a8 ⟨by simp; omega,by simp [DV.cells]⟩ ?_;refine gO Tryz.func31 ?_;refine I.mC 0 rfl rfl rfl ?_;(conv=>whnf);refine gO Tryz.func151 ?_;refine aV ?_;refine gO Tryz.func151 ?_;refine aQ ?_;refine gO Tryz.func151 ?_;refine I.back (IH (j+1) (by omega) (by omega)) ?_;rw [eC,if_pos rfl,List.map_append];(conv=>whnf);repeat (first | exact trivial | (rw [fW]; conv=>whnf) | (refine sI ?_; conv=>whnf))
   refine And.intro rfl ?_;(conv=>whnf);repeat (first | exact trivial | (rw [fW]; conv=>whnf) | (refine sI ?_; conv=>whnf))
 ·have aC:j=da.length:=by simp at h8; omega
  subst aC;rw [List.take_length];refine gO Tryz.func151 ?_;refine I.iD af Tryz.func151 rfl rfl rfl rfl (fun e=>nomatch e) ?_;(conv=>whnf);have D9:∀ z∈eU da k qn,z.Fits∧Nm.valid z.ah=true:=fun z hz=>by
   obtain ⟨p,h1,-,-,rfl⟩:=yv.1 hz;have h4:=p2 p h1;simp only [lS,Bool.and_eq_true] at h4;exact ⟨fH p h1,Ki h4.2⟩
  have dm:(eU da k qn).length≤4000:=by rw [eU,List.length_map]; exact Nat.le_trans (List.length_filter_le ..) (by simpa using p1)
  have bQ:∀ L:List aG,L.Perm (eU da k qn)→L.Pairwise (fun x y=>km y≤km x)→L=nM (eU da k qn):=fun L h1 h2=>Wy p3 h1 h2;unfold l5;generalize eU da k qn=C at *;cases C with
  |nil =>
   refine I.freeze 6 ?_;(conv=>whnf);conv =>
    arg 3
    try whnf
    try conv=>arg 1; whnf
    try conv=>arg 2; whnf
    try conv=>arg 3; whnf
    try conv=>arg 3; arg 2; whnf
    try conv=>arg 4; whnf
    try conv=>arg 4; arg 1; whnf
    try conv=>arg 4; arg 2; whnf
    try conv=>arg 4; arg 3; whnf
    try conv=>arg 4; arg 4; whnf
    try conv=>arg 4; arg 4; arg 2; whnf
    try conv=>arg 4; arg 4; arg 1; arg 1; whnf
    try conv=>arg 4; arg 4; arg 1; arg 1; arg 2; whnf
    try conv=>arg 4; arg 4; arg 1; arg 1; arg 3; whnf
    try conv=>arg 4; arg 4; arg 1; arg 1; arg 3; arg 2; whnf
    try conv=>arg 4; arg 5; whnf
    try conv=>arg 4; arg 5; arg 2; whnf
    try conv=>arg 4; arg 6; whnf
   refine gO Tryz.func31 ?_;refine aV ?_;refine gO Tryz.func31 ?_;refine I.fS af Tryz.func31 rfl rfl rfl rfl rfl ?_;rw [show nM []=[] from List.mergeSort_nil];rfl
  |cons z C =>
   have c5:=Ww (z::C) (by simp) (by simp at dm ⊢; omega) (fun z hz=>(D9 z hz).2);refine gO Tryz.func31 ?_;refine aZ (by simp; omega) ?_;refine gO Tryz.func31 ?_;refine jx c5 ?_;rintro _ _ ⟨rfl,L,A7,Wz,rfl⟩;obtain rfl:=bQ L A7 Wz;have WA:nM (z::C)≠[]:=fun e=>by rw [e] at A7; exact absurd A7.length_eq (by simp)
   have LY:∀ y∈nM (z::C),y.Fits:=fun y hy=>(D9 y (A7.mem_iff.1 hy)).1;generalize nM (z::C)=L at *;(conv=>whnf);refine I.freeze 6 ?_;(conv=>whnf);conv =>
    arg 3
    try whnf
    try conv=>arg 1; whnf
    try conv=>arg 2; whnf
    try conv=>arg 3; whnf
    try conv=>arg 3; arg 2; whnf
    try conv=>arg 4; whnf
    try conv=>arg 4; arg 1; whnf
    try conv=>arg 4; arg 2; whnf
    try conv=>arg 4; arg 3; whnf
    try conv=>arg 4; arg 4; whnf
    try conv=>arg 4; arg 4; arg 2; whnf
    try conv=>arg 4; arg 4; arg 1; arg 1; whnf
    try conv=>arg 4; arg 4; arg 1; arg 1; arg 2; whnf
    try conv=>arg 4; arg 4; arg 1; arg 1; arg 3; whnf
    try conv=>arg 4; arg 4; arg 1; arg 1; arg 3; arg 2; whnf
    try conv=>arg 4; arg 5; whnf
    try conv=>arg 4; arg 5; arg 2; whnf
    try conv=>arg 4; arg 6; whnf
   cases L with
   |nil=>exact absurd rfl WA
   |cons y L =>
    have c6:=Fb y ⟨qn,qt⟩ (LY y (by simp)) jz;refine gO Tryz.func31 ?_;refine aE (e:=y.enc) ⟨by omega,rfl⟩ rfl ?_;cases L with
    |nil =>
     have hP:nN ⟨qn,qt⟩ [y]=some y:=rfl;generalize nN ⟨qn,qt⟩ [y]=Pz at *;subst hP;refine gO Tryz.func31 ?_;cases WB:qt==6
     ·repeat' (first | with_reducible refine ao (c6) ?_ | with_reducible refine ay (c6) ?_ | with_reducible refine cY ?_ | with_reducible refine cN ?_ | with_reducible refine ai (fun _=>?_) (fun _=>?_) | refine gA Tryz.func31 ?_ | refine gB ?_ | with_reducible rfl)
      (conv=>whnf);refine gO Tryz.func31 ?_;refine I.fS af Tryz.func31 rfl rfl rfl rfl rfl ?_;rfl
     ·refine aV ?_;refine gO Tryz.func31 ?_;cases mW:y.ah==qn
      ·repeat' (first | with_reducible refine ao (c6) ?_ | with_reducible refine ay (c6) ?_ | with_reducible refine cY ?_ | with_reducible refine cN ?_ | with_reducible refine ai (fun _=>?_) (fun _=>?_) | refine gA Tryz.func31 ?_ | refine gB ?_ | with_reducible rfl)
       (conv=>whnf);refine gO Tryz.func31 ?_;refine I.fS af Tryz.func31 rfl rfl rfl rfl rfl ?_;rfl
      ·refine aV ?_;refine gO Tryz.func31 ?_;refine aZ (by simp) ?_;refine gO Tryz.func31 ?_;refine ao (c6) ?_;refine gO Tryz.func31 ?_;(conv=>whnf);refine gO Tryz.func31 ?_;refine I.fS af Tryz.func31 rfl rfl rfl rfl rfl ?_;rfl
    |cons y2 L =>
     have c7:=Fb y2 ⟨qn,qt⟩ (LY y2 (by simp)) jz;refine gO Tryz.func31 ?_;cases WB:qt==6
     ·repeat' (first | with_reducible refine ao (c6) ?_ | with_reducible refine ay (c6) ?_ | with_reducible refine cY ?_ | with_reducible refine cN ?_ | with_reducible refine ai (fun _=>?_) (fun _=>?_) | refine gA Tryz.func31 ?_ | refine gB ?_ | with_reducible rfl)
      (conv=>whnf);refine gO Tryz.func31 ?_;refine I.fS af Tryz.func31 rfl rfl rfl rfl rfl ?_;rw [show nN ⟨qn,qt⟩ (y::y2::L)=some y by simp_all [nN]];rfl
     ·refine aV ?_;refine gO Tryz.func31 ?_;cases mW:y.ah==qn
      ·repeat' (first | with_reducible refine ao (c6) ?_ | with_reducible refine ay (c6) ?_ | with_reducible refine cY ?_ | with_reducible refine cN ?_ | with_reducible refine ai (fun _=>?_) (fun _=>?_) | refine gA Tryz.func31 ?_ | refine gB ?_ | with_reducible rfl)
       (conv=>whnf);refine gO Tryz.func31 ?_;refine I.fS af Tryz.func31 rfl rfl rfl rfl rfl ?_;rw [show nN ⟨qn,qt⟩ (y::y2::L)=some y by simp_all [nN]];rfl
      ·refine aV ?_;refine gO Tryz.func31 ?_;refine bh (by simp; omega) ?_;refine gO Tryz.func31 ?_;refine aE (e:=y2.enc) ⟨by omega,rfl⟩ rfl ?_;refine gO Tryz.func31 ?_;refine ao (c7) ?_;refine gO Tryz.func31 ?_;(conv=>whnf);refine gO Tryz.func31 ?_;refine I.fS af Tryz.func31 rfl rfl rfl rfl rfl ?_;rw [show nN ⟨qn,qt⟩ (y::y2::L)=some y2 by simp_all [nN]];rfl
end Go.Proofs.YtfmdaiojokniiaaGreatDoor.P
