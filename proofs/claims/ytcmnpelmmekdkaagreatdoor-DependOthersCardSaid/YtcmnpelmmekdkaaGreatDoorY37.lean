/- Several texts of mine, one behind the other. Conditions: as each says. -/
import Derived.Test.YtcmnpelmmekdkaaGreatDoorY36
set_option linter.unusedVariables false
set_option linter.unusedSimpArgs false
section
namespace Go.Proofs.YtcmnpelmmekdkaaGreatDoor.P
open Go Go.ax
set_option maxRecDepth 100000
set_option maxHeartbeats 4000000
def rK (w:ca) (q:aS):Int:=if dn w&&fp q then (ix w.aq q.type 9 [] q.name).2 else 1
def mY (w:ca) (q:aS):ia:=if dn w&&fp q then (ix w.aq q.type 9 [] q.name).1 else ⟨0,[],[]⟩
theorem mj {w:ca} (h:dn w=true):dW w.aq∧w.aq.length≤4000:=by
 obtain ⟨-,h2,-⟩:=AL.1 h;obtain ⟨h3,h4,-⟩:=AK.1 h2;refine ⟨fun p hp=>?_,h3⟩;have:=h4 p hp;simp only [kb,Bool.and_eq_true] at this;exact this.2
theorem DG {t:Text} (h:Nm.valid t=true):dep t<64:=by
 have:=(O8 h).1;unfold dep;omega
theorem AP {t:Text} (h:Nm.valid t=true):Nm.under t [46]=true:=by
 rw [sG];have:Nm.labels [46]=[]:=by decide
 rw [this];exact List.nil_prefix
theorem DH {l:List aB} {q:aS}:∀ {n:Nat} {ab:Text} {a:ia},fB l q n ab=some a→∃ p∈l,a=bO p.ay q∧a.kind≠4
 | 0,_,_,h=>by simp [fB] at h
 |n+1,ab,a,h=>by
  rw [fB] at h;cases e:dz l ab with
  |none=>rw [e] at h; cases h
  |some z =>
   rw [e] at h;simp only at h;split at h
   ·exact DH h
   ·rename_i h4;cases h;obtain ⟨-,p,hp,rfl⟩:=AE e;exact ⟨p,hp,rfl,h4⟩
theorem Zu {l:List aB} (H:dW l) {q:aS} {n:Nat} {ab:Text} {a:ia} (h:fB l q n ab=some a) (h3:a.kind=3):∃ s m d D,a.af=s::m∧s.set.data=d::D∧vk a=d.text∧Nm.valid d.text=true:=by
 obtain ⟨p,hp,rfl,-⟩:=DH h;obtain ⟨s,m,d,D,g1,-,-,g4,g5,g6⟩:=Ip (lv (H p hp)) h3;exact ⟨s,m,d,D,g1,g4,g5,g6⟩
theorem Zv (z:aU) (q:aS):(ja z q).af.length≤3:=by
 unfold ja;repeat' split
 all_goals first | exact Nat.le_trans Dd (by simp) | exact Nat.le_trans Dd (Nat.le_trans Hu (by simp))
theorem PR {l:List aB} {q:aS} {n:Nat} {ab:Text} {a:ia} (h:fB l q n ab=some a):a.af.length≤100000:=by
 obtain ⟨p,hp,rfl,h4⟩:=DH h;have h1:=Zv p.ay q
 revert h4
 unfold bO;repeat' split
 all_goals first | (intro _; omega) | (intro h; exact absurd rfl h) | (intro _; simp)
theorem PS (w:ca) (q:aS) (hf:w.Fits) (hn:q.name.length≤maxLen):aA E 26 [w.enc,q.enc] (· = .aL [(mY w q).enc,.int .i64 (rK w q)]):=by
 have cw:=DF w hf;have cq:=Zk q hn;refine aA.norm ?_;by_cases hv:dn w=true∧fp q=true
 case neg =>
  have hA:mY w q=⟨0,[],[]⟩:=by
   rw [mY];cases h1:dn w <;> cases h2:fp q <;> simp_all
  have hN:rK w q=1:=by
   rw [rK];cases h1:dn w <;> cases h2:fp q <;> simp_all
  rw [hA,hN];refine eP Tryz.func26 ?_;refine ar (cw) ?_;refine gO Tryz.func26 ?_;cases h1:dn w
  ·refine bq ?_;refine gO Tryz.func26 ?_;refine bq ?_;refine gO Tryz.func26 ?_;rfl
  ·have h2:fp q=false:=by simpa [h1] using hv
   rw [h2] at cq;refine ba ?_;refine gO Tryz.func26 ?_;refine ar (cq) ?_;refine gO Tryz.func26 ?_;refine bq ?_;refine gO Tryz.func26 ?_;rfl
 obtain ⟨hw,hq⟩:=hv;obtain ⟨H,hl⟩:=mj hw;have mi:=hf.aq;rw [hw] at cw;rw [hq] at cq;have ct:=Zr w mi H (by omega);have hA:mY w q=(ix w.aq q.type 9 [] q.name).1:=by rw [mY,hw,hq]; rfl
 have hN:rK w q=(ix w.aq q.type 9 [] q.name).2:=by rw [rK,hw,hq]; rfl
 rw [hA,hN];have PT:1≤q.type∧q.type≤8:=by simp only [fp,Bool.and_eq_true,decide_eq_true_eq] at hq; exact hq.2
 have rl:Nm.valid q.name=true:=by simp only [fp,Bool.and_eq_true] at hq; exact hq.1
 obtain ⟨FR,xP⟩:∃ x,ix w.aq q.type 9 [] q.name=x:=⟨_,rfl⟩;rw [xP];obtain ⟨qn,qt⟩:=q;simp only at PT rl xP;have pa:∀ t,Nm.valid t=true→fp ⟨t,qt⟩=true:=fun t ht=>by simp [fp,ht,PT]
 have cy:=fun t ht x h=>Zs w ⟨t,qt⟩ mi H (by omega) (pa t ht) (DG ht) (AP ht) (x:=x) h;have cn:=fun t ht h=>Zt w ⟨t,qt⟩ mi H (by omega) (pa t ht) (DG ht) (AP ht) h;have fd:=fun (t:Text) (x:ia) (h:fB w.aq ⟨t,qt⟩ 64 [46]=some x) h3=>Zu H h h3;have fl:=fun (t:Text) (x:ia) (h:fB w.aq ⟨t,qt⟩ 64 [46]=some x)=>PR h;generalize hz:w.aq=l at *;generalize kK l l.length=es at *;refine eP Tryz.func26 ?_;refine ar (cw) ?_;refine gO Tryz.func26 ?_;refine ba ?_;refine gO Tryz.func26 ?_;refine ar (cq) ?_;refine gO Tryz.func26 ?_;refine ba ?_;refine gO Tryz.func26 ?_;refine y7 (ct) rfl ?_;refine gO Tryz.func26 ?_;refine aa.rY 7 (57,5) (by decide) rfl ?_;(conv=>whnf);refine aa.loop (κ:=List Signed × Text × Nat) [5,7,8,9,21,22,23,24,25,26,27,28,29,30,31,32,33,34,35,36,37,38,39,40,41,42,43,44,45,46,47,48,49,50,51,52,53,54,55,56,57,58,59] (fun _=>[(7,.own 8 1)]) (fun x=>[(1,.cells [.d (.str x.2.1),.d (.int .i64 qt)]),(8,.arr 1 (57,5) (x.1.map Signed.enc))]) (fun x=>x.1.length+x.2.2=8∧Nm.valid x.2.1=true∧ix l qt (x.2.2+1) x.1 x.2.1=FR) (fun x=>x.2.2) ([],qn,8) ⟨rfl,rl,xP⟩ ?_ ?_
 ·(conv=>whnf);repeat (first | exact trivial | (refine sI ?_; conv=>whnf))
  refine And.intro rfl ?_;exact sZ
 rintro ⟨kept,t,n⟩ ⟨h1,h2,h3⟩ IH;simp only at h1 h2 h3;rw [ix] at h3;refine aa.head aj Tryz.func26 2000 ?_;(conv=>whnf);cases e:fB l ⟨t,qt⟩ 64 [46] with
 |none =>
  rw [e] at h3
  with_reducible refine bR (cn t h2 e) ?_
  refine gO Tryz.func26 ?_;refine bq ?_;refine gO Tryz.func26 ?_;rw [← h3];rfl
 |some a =>
  rw [e] at h3;simp only at h3;have ha:=fl t a e
  with_reducible refine bR (cy t h2 a e) ?_
  refine gO Tryz.func26 ?_;refine ba ?_;refine gO Tryz.func26 ?_;by_cases k3:a.kind=3
  ·rw [if_pos k3] at h3;obtain ⟨s,m,d,D,g1,g2,g3,g4⟩:=fd t a e k3;refine aI (by simpa using k3) ?_;refine gO Tryz.func26 ?_;cases n with
   |zero =>
    refine aM (by simp; omega) ?_;refine gO Tryz.func26 ?_;rw [ix] at h3;rw [← h3];rfl
   |succ n =>
    have OA:¬ kept.length=8:=by omega
    refine aI (by simp; omega) ?_;refine gO Tryz.func26 ?_;refine aF (e:=s.enc) ⟨by omega,by rw [g1]; rfl⟩ rfl ?_;refine gO Tryz.func26 ?_;refine bQ ⟨by simp; omega,by simp [DV.cells]⟩ ?_;refine gO Tryz.func26 ?_;refine aF (e:=s.enc) ⟨by omega,by rw [g1]; rfl⟩ rfl ?_;refine gO Tryz.func26 ?_;refine aF (e:=d.enc) ⟨by omega,by rw [g2]; rfl⟩ rfl ?_;refine gO Tryz.func26 ?_;rw [g1,g3] at h3;refine aa.back (IH (kept++[s],d.text,n) ⟨by simp; omega,g4,h3⟩ (by simp)) ?_;(conv=>whnf);repeat (first | exact trivial | (refine sI ?_; conv=>whnf))
    refine And.intro (by simp) ?_;exact sZ
  ·rw [if_neg k3] at h3;refine aM (by simpa using k3) ?_;refine gO Tryz.func26 ?_;refine bQ ⟨by simp; omega,by simp [DV.cells]⟩ ?_;refine gO Tryz.func26 ?_;rw [← h3];simp only [norm,sA,List.map_append,ia.enc]
end Go.Proofs.YtcmnpelmmekdkaaGreatDoor.P
end
section
namespace Go.Proofs.YtcmnpelmmekdkaaGreatDoor.P
open Go Go.ax
set_option maxRecDepth 100000
set_option maxHeartbeats 4000000
def mZ (l:List aB) (i:Int):DV:=match l[i.toNat]? with
 |some p => .agg [.int .i64 (gZ p.ay),.int .i64 p.host]
 |none => .undef
def pY (l:List aB) (i:Int):DV:=match l[i.toNat]? with
 |some p=>p.ay.enc
 |none => .undef
def ml (l:List aB):List (DV × DV):=iK l (pY l) l.length
theorem Zw (l:List aB):lA DV.str (ml l):=(vu (Nat.le_refl _)).keys
theorem Zx (l:List aB) (a:Text):findD (.str a) (ml l)=match dz l a with | some z=>some z.enc | none=>none:=by
 have M:=vu (l:=l) (V:=pY l) (Nat.le_refl l.length);have h:=M.find a;have ai:=rI (l:=l) (ab:=a) (n:=l.length);by_cases h0:0≤dS l a l.length
 ·obtain ⟨m,hm⟩:∃ m:Nat,dS l a l.length=m:=⟨(dS l a l.length).toNat,by omega⟩;obtain ⟨p,hp⟩:=aY (l:=l) (k:=m) (by omega);rw [if_pos h0,hm] at h;rw [ml,h,AN hm hp];simp only [pY,Int.toNat_natCast,hp]
 ·rw [if_neg h0] at h;rw [ml,h,PO h0]
theorem PU (bad:Nat→Prop) (w:World):VD bad w (.agg [.int .i64 0,.int .i64 0]) (.agg #[.int .i64 0,.int .i64 0]) := .agg _ _ rfl fun j x v hx hv=>by
 match j with
 | 0=>simp at hx hv; subst hx; subst hv; exact .int _ _
 | 1=>simp at hx hv; subst hx; subst hv; exact .int _ _
 |j+2=>simp at hx
theorem PV (bad:Nat→Prop) (w:World):VD bad w (.agg [.str [],.a8]) (.agg #[.string ⟨#[]⟩,.slice none 0 0]) := .agg _ _ rfl fun j x v hx hv=>by
 match j with
 | 0=>simp at hx hv; subst hx; subst hv; exact .str []
 | 1=>simp at hx hv; subst hx; subst hv; exact .a8
 |j+2=>simp at hx
theorem PW (w:ca) (hf:∀ p∈w.aq,p.ay.Fits) (H:dW w.aq) (hl:w.aq.length≤1000000):aC E 42 [] [.d w.enc] (fun a b=>a = .map 2∧b=[.cells (rJ w 0).dropLast,.map (iK w.aq (mZ w.aq) w.aq.length),.map (ml w.aq)]):=by
 obtain ⟨cd,l,anchor,hints⟩:=w;simp only at hf H hl;show aC E _ [] [.d (DV.agg [.sl (cd.map Host.enc),.sl (l.map aB.enc),.str anchor.name,.int .i64 anchor.type,.int .i64 anchor.gy,.sl (anchor.data.map Datum.enc),.sl (hints.map (.int .i64))])] _;refine aC.run aj (fn:=Tryz.f42) Tryz.func42 (body:=Tryz.f42.body.getD .skip) rfl (by decide) 2000 rfl ?_;(conv=>whnf);refine gO Tryz.func42 ?_;refine gO Tryz.func42 ?_;refine aa.loop (κ:=Nat) (rg 6 6++rg 17 51) (fun k=>[(17,.d (.int .i64 k))]) (fun k=>[(1,.map (iK l (mZ l) k)),(2,.map (iK l (pY l) k))]) (fun k=>k≤l.length) (fun k=>l.length - k) 0 (Nat.zero_le _) ?_ ?_
 ·(conv=>whnf);repeat (first | exact trivial | (refine sI ?_; conv=>whnf))
  refine And.intro rfl ?_;(conv=>whnf);repeat (first | exact trivial | (refine sI ?_; conv=>whnf))
  refine And.intro rfl ?_;exact sZ
 intro k hk IH;refine aa.head aj Tryz.func42 2000 ?_;(conv=>whnf);refine aw (fun h5=>?_) (fun h5=>?_)
 ·have ai:k<l.length:=by simpa using h5
  obtain ⟨x,hx⟩:=aY ai;have ma:=DE (V:=mZ l) hx;have iu:=DE (V:=pY l) hx;have v1:mZ l k = .agg [.int .i64 (gZ x.ay),.int .i64 x.host]:=by rw [mZ,Int.toNat_natCast,hx]
  have v2:pY l k=x.ay.enc:=by rw [pY,Int.toNat_natCast,hx]
  rw [v1] at ma;rw [v2] at iu;have M1:mX l (mZ l) k (iK l (mZ l) k):=vu hk;have M2:mX l (pY l) k (iK l (pY l) k):=vu hk;have dr:=M1.find x.ay.ab;have gX:=rI (l:=l) (ab:=x.ay.ab) (n:=k);have AQ:=s8 M1.keys;have vw:=s8 M2.keys;have lh:=List.mem_of_getElem? hx;have iT:kc l x k=(decide (dS l x.ay.ab k<0)||(match l[(dS l x.ay.ab k).toNat]? with | some q=>dV x q | none=>false)):=rfl;generalize dS l x.ay.ab k=b at dr gX iT;generalize iK l (mZ l) k=es1 at *;generalize iK l (pY l) k=KJ at *;refine gO Tryz.func42 ?_;refine aF (e:=x.enc) (a7 hx) rfl ?_;refine gO Tryz.func42 ?_;refine ar (Ht x.ay (hf x lh) (H x lh)) ?_;refine gO Tryz.func42 ?_;by_cases h0:0≤b
  ·rw [if_pos h0] at dr;obtain ⟨m,rfl⟩:∃ m:Nat,b=m:=⟨b.toNat,by omega⟩;obtain ⟨y,hy⟩:=aY (l:=l) (k:=m) (by omega);have v3:mZ l m = .agg [.int .i64 (gZ y.ay),.int .i64 y.host]:=by rw [mZ,Int.toNat_natCast,hy]
   rw [v3] at dr;rw [Int.toNat_natCast,hy] at iT;have vv:kc l x k=dV x y:=by
    have:¬ ((m:Int)<0):=by omega
    rw [iT]; simp [this]
   clear iT;rw [vv] at ma iu;refine iR (.agg [.int .i64 0,.int .i64 0]) (.agg #[.int .i64 0,.int .i64 0]) (v := .agg [.int .i64 (gZ y.ay),.int .i64 y.host]) (f:=true) ⟨_,rfl⟩ AQ (fun w=>by kernel_rfl) PU (by rw [dr]; rfl) (by rw [dr]; rfl) ?_;refine gO Tryz.func42 ?_;refine ba ?_;refine gO Tryz.func42 ?_;by_cases g1:gZ x.ay>gZ y.ay
   ·have pX:dV x y=true:=by simp [dV]; omega
    rw [pX,if_pos rfl] at ma iu;refine aM (decide_eq_true g1) ?_;refine gO Tryz.func42 ?_;refine bq ?_;refine gO Tryz.func42 ?_;refine bQ ⟨⟨_,rfl⟩,AQ⟩ ?_;refine gO Tryz.func42 ?_;refine bQ ⟨⟨_,rfl⟩,vw⟩ ?_;refine gO Tryz.func42 ?_;refine aa.back (IH (k+1) (by omega) (by omega)) ?_;rw [ma,iu];exact sZ
   ·refine aI (decide_eq_false g1) ?_;refine gO Tryz.func42 ?_;by_cases g2:gZ x.ay=gZ y.ay
    ·refine aM (by simpa using g2) ?_;refine gO Tryz.func42 ?_;by_cases g3:x.host<y.host
     ·have pX:dV x y=true:=by simp [dV]; omega
      rw [pX,if_pos rfl] at ma iu;refine aM (decide_eq_true g3) ?_;refine gO Tryz.func42 ?_;refine bQ ⟨⟨_,rfl⟩,AQ⟩ ?_;refine gO Tryz.func42 ?_;refine bQ ⟨⟨_,rfl⟩,vw⟩ ?_;refine gO Tryz.func42 ?_;refine aa.back (IH (k+1) (by omega) (by omega)) ?_;rw [ma,iu];exact sZ
     ·have pX:dV x y=false:=by simp [dV]; omega
      rw [pX,if_neg (by decide)] at ma iu;refine aI (decide_eq_false g3) ?_;refine gO Tryz.func42 ?_;refine aa.back (IH (k+1) (by omega) (by omega)) ?_;rw [ma,iu];exact sZ
    ·have pX:dV x y=false:=by simp [dV]; omega
     rw [pX,if_neg (by decide)] at ma iu;refine aI (by simpa using g2) ?_;refine gO Tryz.func42 ?_;refine ba ?_;refine gO Tryz.func42 ?_;refine aa.back (IH (k+1) (by omega) (by omega)) ?_;rw [ma,iu];exact sZ
  ·rw [if_neg h0] at dr;have vv:kc l x k=true:=by rw [iT]; simp; omega
   rw [vv,if_pos rfl] at ma iu;refine iR (.agg [.int .i64 0,.int .i64 0]) (.agg #[.int .i64 0,.int .i64 0]) (v := .agg [.int .i64 0,.int .i64 0]) (f:=false) ⟨_,rfl⟩ AQ (fun w=>by kernel_rfl) PU (by rw [dr]; rfl) (by rw [dr]; rfl) ?_;refine gO Tryz.func42 ?_;refine bq ?_;refine gO Tryz.func42 ?_;refine bq ?_;refine gO Tryz.func42 ?_;refine bq ?_;refine gO Tryz.func42 ?_;refine bQ ⟨⟨_,rfl⟩,AQ⟩ ?_;refine gO Tryz.func42 ?_;refine bQ ⟨⟨_,rfl⟩,vw⟩ ?_;refine gO Tryz.func42 ?_;refine aa.back (IH (k+1) (by omega) (by omega)) ?_;rw [ma,iu];exact sZ
 ·have aP:l.length≤k:=by simpa using h5
  obtain rfl:k=l.length:=by omega
  refine gO Tryz.func42 ?_;exact ⟨rfl,rfl⟩
end Go.Proofs.YtcmnpelmmekdkaaGreatDoor.P
end
section
namespace Go.Proofs.YtcmnpelmmekdkaaGreatDoor.P
open Go Go.ax
set_option maxRecDepth 100000
set_option maxHeartbeats 4000000
@[reducible] def cu.enc (x : cu) : DV := .agg [.str x.bH.name, .int .i64 x.bH.type, .str x.other]
theorem Zy {ab:Text} {l:List Signed} {k:Nat} {x:Signed} (h:l[k]? = some x):dZ ab (l.take (k+1))=dZ ab (l.take k)++if x.set.name=ab∧x.set.type=2 then kI ab x.set.data else []:=by
 rw [eI h,dZ,List.flatMap_append];simp [dZ,kI]
theorem PX {ab:Text}:∀ {l:List Signed},(∀ s∈l,s.set.data.length≤8)→(dZ ab l).length≤8*l.length
 | [],_=>by simp [dZ]
 |s::l,h=>by
  have ih:=PX (ab:=ab) (l:=l) fun x hx=>h x (List.mem_cons_of_mem _ hx);have h1:=h s (List.mem_cons_self ..);have e:dZ ab (s::l)=(if s.set.name=ab∧s.set.type=2 then s.set.data.map fun d=>(⟨⟨ab,2⟩,d.text⟩:cu) else [])++dZ ab l:=by rw [dZ,List.flatMap_cons]; rfl
  rw [e,List.length_append,List.length_cons];split
  ·rw [List.length_map]; omega
  ·rw [List.length_nil]; omega
theorem Zz {ab:Text} {D:List Datum} {k:Nat} {d:Datum} (h:D[k]? = some d):kI ab (D.take (k+1))=kI ab (D.take k)++[⟨⟨ab,2⟩,d.text⟩]:=by
 rw [eI h,kI,List.map_append]; rfl
theorem PY (ab:Text) (l:List Signed) (Z:List Text) (F:List cu) (hd:∀ s∈l,s.set.data.length≤8) (hl:l.length≤1000000) (hF:F.length≤1000000000):aC E 127 [.cells [.own 1 0,.own 2 0],.arr 0 (9,1) (Z.map .str),.arr 0 (189,3) (F.map cu.enc)] [.d (.str ab),.d (.sl (l.map Signed.enc)),.ptr 0 0] (fun a b=>a = .aL []∧b=[.cells [.own 1 0,.own 2 1],.arr 0 (9,1) (Z.map .str),.arr 1 (189,3) ((F++dZ ab l).map cu.enc)]):=by
 refine aC.run aj (fn:=Tryz.f127) Tryz.func127 (body:=Tryz.f127.body.getD .skip) rfl (by decide) 2000 rfl ?_;(conv=>whnf);refine aa.loop (κ:=Nat) ([6,8]++rg 11 35) (fun k=>[(11,.d (.int .i64 k))]) (fun k=>[(0,.cells [.own 1 0,.own 2 1]),(2,.arr 1 (189,3) ((F++dZ ab (l.take k)).map cu.enc))]) (fun k=>k≤l.length) (fun k=>l.length - k) 0 (Nat.zero_le _) ?_ ?_
 ·(conv=>whnf);repeat (first | exact trivial | (refine sI ?_; conv=>whnf))
  refine And.intro (by simp [dZ]) ?_;exact sZ
 intro k hk IH;have iU:=PX (ab:=ab) (l:=l.take k) fun s hs=>hd s (List.mem_of_mem_take hs);rw [List.length_take] at iU;refine aa.head aj Tryz.func127 2000 ?_;(conv=>whnf);refine aw (fun h5=>?_) (fun h5=>?_)
 ·have ai:k<l.length:=by simpa using h5
  obtain ⟨x,hx⟩:=aY ai;have bS:=Zy (ab:=ab) hx;have w7:=hd x (List.mem_of_getElem? hx);generalize dZ ab (l.take k)=G at iU bS ⊢;refine gO Tryz.func127 ?_;refine aF (e:=x.enc) (a7 hx) rfl ?_;refine gO Tryz.func127 ?_;by_cases h6:x.set.name=ab
  ·refine aM (by simpa using h6) ?_;refine gO Tryz.func127 ?_;by_cases h7:x.set.type=2
   ·rw [if_pos ⟨h6,h7⟩] at bS;refine aM (by simpa using h7) ?_;refine gO Tryz.func127 ?_;refine aa.loop (κ:=Nat) ([8]++rg 30 15) (fun j=>[(30,.d (.int .i64 j))]) (fun j=>[(0,.cells [.own 1 0,.own 2 1]),(2,.arr 1 (189,3) ((F++G++kI ab (x.set.data.take j)).map cu.enc))]) (fun j=>j≤x.set.data.length) (fun j=>x.set.data.length - j) 0 (Nat.zero_le _) ?_ ?_
    ·(conv=>whnf);repeat (first | exact trivial | (refine sI ?_; conv=>whnf))
     refine And.intro (by simp [kI]) ?_;exact sZ
    intro j hj JH;have kR:(kI ab (x.set.data.take j)).length≤8:=by simp [kI]; omega
    refine aa.head aj Tryz.func127 2000 ?_;(conv=>whnf);refine aw (fun h8=>?_) (fun h8=>?_)
    ·have Iw:j<x.set.data.length:=by simpa using h8
     obtain ⟨d,PZ⟩:=aY Iw;have P0:=Zz (ab:=ab) PZ;generalize kI ab (x.set.data.take j)=HL at kR P0 ⊢;refine gO Tryz.func127 ?_;refine aF (e:=d.enc) (a7 PZ) rfl ?_;refine gO Tryz.func127 ?_;refine bQ ⟨by simp; omega,by simp [DV.cells]⟩ ?_;refine gO Tryz.func127 ?_;refine aa.back (JH (j+1) (by omega) (by omega)) ?_;rw [P0];(conv=>whnf);repeat (first | exact trivial | (refine sI ?_; conv=>whnf))
     refine And.intro (by simp) ?_;exact sZ
    ·have Iv:x.set.data.length≤j:=by simpa using h8
     rw [List.take_of_length_le Iv];refine gO Tryz.func127 ?_;refine aa.back (IH (k+1) (by omega) (by omega)) ?_;rw [bS];(conv=>whnf);repeat (first | exact trivial | (refine sI ?_; conv=>whnf))
     refine And.intro (by simp) ?_;exact sZ
   ·rw [if_neg (fun h=>h7 h.2),List.append_nil] at bS;refine aI (by simpa using h7) ?_;refine gO Tryz.func127 ?_;refine aa.back (IH (k+1) (by omega) (by omega)) ?_;rw [bS];exact sZ
  ·rw [if_neg (fun h=>h6 h.1),List.append_nil] at bS;refine aI (by simpa using h6) ?_;refine gO Tryz.func127 ?_;refine ba ?_;refine gO Tryz.func127 ?_;refine aa.back (IH (k+1) (by omega) (by omega)) ?_;rw [bS];exact sZ
 ·have aP:l.length≤k:=by simpa using h5
  rw [List.take_of_length_le aP];refine gO Tryz.func127 ?_;exact ⟨rfl,rfl⟩
end Go.Proofs.YtcmnpelmmekdkaaGreatDoor.P
end
