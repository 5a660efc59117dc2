/- Lemmas of mine. Conditions: as stated. -/
import Derived.Test.YtlhehdgciafakaaGreatDoorQ9
import Derived.Test.YtlhehdgciafakaaGreatDoorQ10
set_option linter.unusedVariables false
set_option linter.unusedSimpArgs false
open Bool renaming and_eq_true->ai2
open List renaming getElem?_append_left->ahT,mem_map->ahY,map_map->ajR,getElem?_of_mem->aiN,mem_of_getElem?->aiQ,all_eq_true->ahH,getLast?_eq_getElem?->alm
section
namespace Go.Proofs.YtlhehdgciafakaaGreatDoor.P
open Go Go.az
set_option maxRecDepth 100000
set_option maxHeartbeats 4000000
theorem Y4(l:List DV)(hl:l.length<=2147483648)(hc:∀ e∈l,e.cells.length=5):aq E 55 [.sl l] (· = .sl l):=by
 by_cases h:l=[]
 ·subst h;refine aq.norm ?_;refine eP F55.h ?_;refine I.mY ag rfl rfl rfl rfl (bg rfl) (fun b hb=>?_);cases b
  ·refine gC ?_;refine vF ?_;refine bj ⟨by decide,fun e he=>by cases he⟩ (gC ?_);rfl
  ·refine gC ?_;refine vT ?_;rfl
 ·refine eP F55.h ?_;refine I.mY ag rfl rfl rfl rfl (bg rfl) (fun b hb=>?_);obtain rfl:b=false:=by
   cases b
   ·rfl
   ·exact absurd (hb rfl) h
  refine gC ?_;refine vF ?_;refine bj ⟨by simp;omega,hc⟩ ?_;refine gC ?_;rfl
theorem Y5(l:List DV)(h:l≠[])(hl:l.length<=2147483648)(hc:∀ e∈l,e.cells.length=5):au E 55 [] [.d (.sl l)] (fun a b=>a=.own 0 1/\b=[.arr 1 (72,5) l]):=by
 refine aE ?_;refine I.mY ag rfl rfl rfl rfl (bg rfl) (fun b hb=>?_);obtain rfl:b=false:=by
  cases b
  ·rfl
  ·exact absurd (hb rfl) h
 refine gC ?_;refine vF ?_;refine bj ⟨by simp;omega,hc⟩ ?_;refine gC ?_;exact⟨rfl,rfl⟩
theorem PV(l:List DV)(hl:l.length<=2147483648)(hc:∀ e∈l,e.cells.length=3):aq E 57 [.sl l] (· = .sl l):=by
 by_cases h:l=[]
 ·subst h;refine aq.norm ?_;refine eP F57.h ?_;refine I.mY ag rfl rfl rfl rfl (bg rfl) (fun b hb=>?_);cases b
  ·refine gC ?_;refine vF ?_;refine bj ⟨by decide,fun e he=>by cases he⟩ (gC ?_);rfl
  ·refine gC ?_;refine vT ?_;rfl
 ·refine eP F57.h ?_;refine I.mY ag rfl rfl rfl rfl (bg rfl) (fun b hb=>?_);obtain rfl:b=false:=by
   cases b
   ·rfl
   ·exact absurd (hb rfl) h
  refine gC ?_;refine vF ?_;refine bj ⟨by simp;omega,hc⟩ ?_;refine gC ?_;rfl
theorem EO(l:List DV)(hl:l.length<=2147483648)(hc:∀ e∈l,e.cells.length=3):aq E 58 [.sl l] (· = .sl l):=by
 by_cases h:l=[]
 ·subst h;refine aq.norm ?_;refine eP F58.h ?_;refine I.mY ag rfl rfl rfl rfl (bg rfl) (fun b hb=>?_);cases b
  ·refine gC ?_;refine vF ?_;refine bj ⟨by decide,fun e he=>by cases he⟩ (gC ?_);rfl
  ·refine gC ?_;refine vT ?_;rfl
 ·refine eP F58.h ?_;refine I.mY ag rfl rfl rfl rfl (bg rfl) (fun b hb=>?_);obtain rfl:b=false:=by
   cases b
   ·rfl
   ·exact absurd (hb rfl) h
  refine gC ?_;refine vF ?_;refine bj ⟨by simp;omega,hc⟩ ?_;refine gC ?_;rfl
theorem PW(l:List DV)(hl:l.length<=2147483648)(hc:∀ e∈l,e.cells.length=1):aq E 59 [.sl l] (· = .sl l):=by
 by_cases h:l=[]
 ·subst h;refine aq.norm ?_;refine eP F59.h ?_;refine I.mY ag rfl rfl rfl rfl (bg rfl) (fun b hb=>?_);cases b
  ·refine gC ?_;refine vF ?_;refine bj ⟨by decide,fun e he=>by cases he⟩ (gC ?_);rfl
  ·refine gC ?_;refine vT ?_;rfl
 ·refine eP F59.h ?_;refine I.mY ag rfl rfl rfl rfl (bg rfl) (fun b hb=>?_);obtain rfl:b=false:=by
   cases b
   ·rfl
   ·exact absurd (hb rfl) h
  refine gC ?_;refine vF ?_;refine bj ⟨by simp;omega,hc⟩ ?_;refine gC ?_;rfl
theorem Y6(l:List DV)(hl:l.length<=2147483648)(hc:∀ e∈l,e.cells.length=5):aq E 118 [.sl l] (· = .sl l):=by
 by_cases h:l=[]
 ·subst h;refine aq.norm ?_;refine eP F118.h ?_;refine I.mY ag rfl rfl rfl rfl (bg rfl) (fun b hb=>?_);cases b
  ·refine gC ?_;refine vF ?_;refine bj ⟨by decide,fun e he=>by cases he⟩ (gC ?_);rfl
  ·refine gC ?_;refine vT ?_;rfl
 ·refine eP F118.h ?_;refine I.mY ag rfl rfl rfl rfl (bg rfl) (fun b hb=>?_);obtain rfl:b=false:=by
   cases b
   ·rfl
   ·exact absurd (hb rfl) h
  refine gC ?_;refine vF ?_;refine bj ⟨by simp;omega,hc⟩ ?_;refine gC ?_;rfl
theorem Y7(l:List DV)(h:l≠[])(hl:l.length<=2147483648)(hc:∀ e∈l,e.cells.length=5):au E 118 [] [.d (.sl l)] (fun a b=>a=.own 0 1/\b=[.arr 1 (77,5) l]):=by
 refine aE ?_;refine I.mY ag rfl rfl rfl rfl (bg rfl) (fun b hb=>?_);obtain rfl:b=false:=by
  cases b
  ·rfl
  ·exact absurd (hb rfl) h
 refine gC ?_;refine vF ?_;refine bj ⟨by simp;omega,hc⟩ ?_;refine gC ?_;exact⟨rfl,rfl⟩
theorem PX(l:List DV)(hl:l.length<=2147483648)(hc:∀ e∈l,e.cells.length=6):aq E 119 [.sl l] (· = .sl l):=by
 by_cases h:l=[]
 ·subst h;refine aq.norm ?_;refine eP F119.h ?_;refine I.mY ag rfl rfl rfl rfl (bg rfl) (fun b hb=>?_);cases b
  ·refine gC ?_;refine vF ?_;refine bj ⟨by decide,fun e he=>by cases he⟩ (gC ?_);rfl
  ·refine gC ?_;refine vT ?_;rfl
 ·refine eP F119.h ?_;refine I.mY ag rfl rfl rfl rfl (bg rfl) (fun b hb=>?_);obtain rfl:b=false:=by
   cases b
   ·rfl
   ·exact absurd (hb rfl) h
  refine gC ?_;refine vF ?_;refine bj ⟨by simp;omega,hc⟩ ?_;refine gC ?_;rfl
structure aK.gY(z:aK):Prop where
 J:z.J.length<=2147483648
 each:∀ s∈z.J,s.set.data.length<=2147483648/\s.sigs.length<=2147483648
theorem Jw{z:aK}(h:dN z=true):z.gY:=by
 simp only[dN,ai2]at h;obtain⟨h1,h2,h3,h4,h5⟩:=h;obtain⟨q1,q2,q3⟩:=zx h1;refine⟨by omega,fun s hs=>⟨?_,?_⟩⟩
 ·have:=q2 s hs;simp only[gj,ai2]at this;have:=xj this.1;omega
 ·obtain⟨i,hi⟩:=aiN hs;have ai:=aW hi;obtain⟨o,ho⟩:=aI (l:=tI z) (k:=i) (by rw[I5];exact ai);have hm:(s,o)∈z.J.zip (tI z):=aiQ (i:=i) (by rw[List.getElem?_zip_eq_some];exact⟨hi,ho⟩);have h6:=ahH.1 h5 _ hm;simp only[xo,kX,ai2,decide_eq_true_eq]at h6;omega
theorem B6{z:aK}(hg:z.Good)(h:nh z=true):z.Fits/\z.gY/\z.ga:=by
 simp only[nh,ai2,decide_eq_true_eq]at h;obtain⟨h1,h2⟩:=h;rw[List.take_of_length_le oM]at h1;have he:∀ s∈z.J,s.set.data.length<=20/\s.sigs.length<=20:=fun s hs=>by
  have:=ahH.1 h1 s hs;simp[zq]at this;omega
 refine⟨⟨hg.1,fun s hs=>⟨((hg.2.2 s hs).1).1,by have:=he s hs;omega,fun d hd=>(((hg.2.2 s hs).1).2.2.2.2 d hd).1⟩⟩,⟨by omega,fun s hs=>by have:=he s hs;omega⟩,⟨by omega,fun s hs=>⟨by have:=he s hs;omega,by have:=he s hs;omega⟩⟩⟩
theorem PY{l:List Signed}{i:Nat}{x:Signed}(h:l[i]?=some x):(l.map Signed.enc).set i x.enc=l.map Signed.enc:=by
 apply List.ext_getElem?;intro j;rw[List.getElem?_set];split
 ·rename_i e;subst e;have ai:=aW h;rw[if_pos (zD ai),List.getElem?_map,h];rfl
 ·rfl
theorem Y8(z:aK)(hf:z.gY):aq E 56 [z.enc] (· = z.enc):=by
 obtain⟨af,l⟩:=z;obtain⟨hl,he⟩:=hf;simp only at hl he;have dR:∀ e∈l.map Signed.enc,e.cells.length=5:=fun e h=>by
  obtain⟨x,_,rfl⟩:=ahY.1 h;rfl
 show aq E _ [DV.agg [.str af,.sl (l.map Signed.enc)]] _;by_cases h:l=[]
 ·subst h;show aq E _ [DV.agg [.str af,.sl []]] _;refine eP F56.h ?_
  with_reducible refine ao (Y6 [] sP sP) ?_
  refine gC ?_;refine I.te ?_;refine I.run ag F56.h 2000 ?_;(conv=>whnf);refine aP sP (gC ?_);rfl
 ·refine eP F56.h ?_;refine lC (Y7 (l.map Signed.enc) (zD h) (zD hl) dR) rfl (gC ?_);refine I.lP l.length ([3]++rg 11 30) (fun k=>[(11,.d (.int .i64 k))]) (fun k=>[(2,.arr 1 (77,5) (l.map Signed.enc))]) (fun k=>k<=l.length) (Nat.zero_le _) ?_ ?_
  ·exact sZ
  intro k hk IH;refine zA ?_ ?_<;>intro h5
  ·have ai:k<l.length:=zD h5
   obtain⟨x,hx⟩:=aI ai;obtain⟨q1,q2⟩:=he x (aiQ hx);have Y9:(l.map Signed.enc).set (k:Int).toNat (DV.agg [.str x.set.name,.int .i64 x.set.type,.int .i64 x.set.dD,.sl (x.set.data.map Datum.enc),rI x.sigs])=l.map Signed.enc:=PY hx;have Y':(l.map Signed.enc).set (k:Int).toNat (DV.agg [.str x.set.name,.int .i64 x.set.type,.int .i64 x.set.dD,rH x.set.data,.sl (x.sigs.map dE.enc)])=l.map Signed.enc:=PY hx;refine gC ?_;refine dU ?_;have hb:0<=(k:Int)/\(k:Int)<((l.map Signed.enc).length:Int):=⟨by omega,by simp;omega⟩;refine bj hb (gD ?_);refine eM hx (gD ?_);refine ax (EO (x.set.data.map Datum.enc) (zD q1) (fun e h=>by obtain⟨d,_,rfl⟩:=ahY.1 h;simp[DV.cells])) ?_;refine gD ?_;refine bj hb (gD ?_);refine eM hx (gD ?_);refine And.intro (by kernel_rfl) ?_;(conv=>whnf);rw[Y9];refine gC ?_;refine dU ?_;refine bj hb (gD ?_);refine eM hx (gD ?_);refine ax (PX (x.sigs.map dE.enc) (zD q2) (fun e h=>by obtain⟨d,_,rfl⟩:=ahY.1 h;simp[DV.cells])) ?_;refine gD ?_;refine bj hb (gD ?_);refine eM hx (gD ?_);refine And.intro (by kernel_rfl) ?_;(conv=>whnf);rw[Y'];refine gC ?_;exact I.back (IH (k+1) oM oM) sZ
  ·refine gC ?_
   with_reducible rfl
end Go.Proofs.YtlhehdgciafakaaGreatDoor.P
end
section
namespace Go.Proofs.YtlhehdgciafakaaGreatDoor.P
open Go Go.az Go.Sort Go.RowKit
structure Span where
 bQ:Int
 upto:Int
 deriving DecidableEq
@[reducible] def Span.enc (x : Span) : DV := .agg [.int .i64 x.bQ, .int .i64 x.upto]
set_option maxHeartbeats 1000000 in
theorem ZD(x y:Int × Int)(W:World):Calls Tryz.prog 66 #[.agg #[.int .i64 x.1,.int .i64 x.2],.agg #[.int .i64 y.1,.int .i64 y.2]] W fun e w'=>e=.returned (.int .i64 (Lib.compareInt x.1 y.1))/\∃ q xz,w'=grow (W.drewN q) xz:=by
 have Ca:=fun W'=>AnyG.cmp_Compare_int Tryz.Zx x.1 y.1 W';change ∀ W',Calls Tryz.prog 67 _ _ _ at Ca;generalize Lib.compareInt x.1 y.1=r at Ca ⊢
 go_enter Tryz.func66,Tryz.ntmps66
 go_wp2_with (go_at_call 67;refine(Ca _).mono ?_;rintro e w' ⟨rfl,rfl⟩)
 go_ret
 exact⟨rfl,0,_,by rw[alloc_eq_grow,alloc_eq_grow,grow_grow];rfl⟩
theorem ZE:Qf Tryz.prog 65 66 (·.1):=fun blk cap d w hH hblk bP=>by
 have eg:∀ args w,(callFunc 66 args).run Tryz.prog w=.ok (.enter 66 args) w:=enters_of Tryz.func66 (by kernel_rfl) rfl;have Ca:=AnyQ.slices_SortFunc Tryz.Zz 2 Tryz.isAgg137 Tryz.sizeOf137 n0 (fun _=>rfl) (fun x v hv=>by simp[n0]at hv;rcases hv with rfl|rfl<;>rfl) (fun x y=>Lib.compareInt x.1 y.1) (Zt (·.1)) 66 #[] blk 0 cap d w eg (fun _ _ _ _ x y=>ZD x y _) hH hblk bP;exact Ca
theorem ZF(l:List Span)(hl:l≠[])(hlen:l.length<4611686018427387904) :
  au E 65 [.arr 0 (137,2) (l.map Span.enc)] [.own 0 0,.fn (.func 66) [] []] (fun a b=>a=.aG []/\∃ l':List Span,l'.Perm l/\l'.Pairwise (fun x y=>x.bQ<=y.bQ)/\b=[.arr 0 (137,2) (l'.map Span.enc)]):=by
 have h:=Zv (E:=E) (t:=137) ZE ⟨_,Tryz.func65,rfl,by decide⟩ (l.map fun k=>(k.bQ,k.upto)) (zD hl) (zD hlen);have e1:∀ m:List Span,(m.map fun k=>(k.bQ,k.upto)).map lS=m.map Span.enc:=fun m=>by rw[ajR];rfl
 rw[e1]at h;refine h.mono fun a b ⟨ha,l',hp,hs,hb⟩=>⟨ha,l'.map fun p=>⟨p.1,p.2⟩,?_,?_,?_⟩
 ·have:=hp.map fun p:Int × Int=>(⟨p.1,p.2⟩:Span);rw[ajR]at this;have e2:((fun p:Int × Int=>(⟨p.1,p.2⟩:Span)) ∘ fun k:Span=>(k.bQ,k.upto))=id:=rfl;rw[e2,List.map_id]at this;exact this
 ·exact List.pairwise_map.2 hs
 ·rw[hb,ajR];rfl
end Go.Proofs.YtlhehdgciafakaaGreatDoor.P
end
section
namespace Go.Proofs.YtlhehdgciafakaaGreatDoor.P
open Go Go.az
set_option maxRecDepth 100000
set_option maxHeartbeats 4000000
theorem abJ{α:Type}{l:List α}{k:Nat}(h:k<l.length):∃ x,l[k]?=some x:=⟨l[k],by simp⟩
def Ri(z:aK):Int:=match z.J[(aC z.J ⟨z.af,4⟩).toNat]? with
 |some s=>(match s.set.data[0]? with|some d=>d.n|none=>0)
 |none=>0
theorem Rj{i j:Nat}(h:i+j<=4294967296):IntKind.i64.wrap (mT .shr .u64 (IntKind.u64.wrap (IntKind.i64.wrap ((i:Int)+j))) (Int.toNat 1))=(((i+j) / 2:Nat):Int):=Pc h
theorem abK{z:aK}(h:dN z=true):∃ (k:Nat) (s:Signed) (d:Datum),aC z.J ⟨z.af,4⟩=k/\z.J[k]?=some s/\cF ⟨z.af,4⟩ s=true/\s.set.data[0]?=some d/\Ri z=d.n:=by
 have h0:=h;simp only[dN,ai2]at h;obtain⟨h1,h2,h3,h4,h5⟩:=h;simp only[tG,ai2,Bool.not_eq_true',decide_eq_false_iff_not]at h2;have h6:=h2.1.1;cases hf:z.J.findIdx? (cF ⟨z.af,4⟩)with
 |none=>simp[aC,hf]at h6
 |some k =>
  obtain⟨hk,hq,_⟩:=List.findIdx?_eq_some_iff_getElem.1 hf;have hs:z.J[k]?=some z.J[k]:=List.getElem?_eq_getElem hk;obtain⟨q1,q2,q3⟩:=zx h1;have aV:=q2 z.J[k] (List.getElem_mem hk);simp only[gj,ai2]at aV;have hl:=xj aV.1;obtain⟨d,hd⟩:=abJ (l:=z.J[k].set.data) (k:=0) oM;have e:aC z.J ⟨z.af,4⟩=k:=by simp[aC,hf]
  exact⟨k,z.J[k],d,e,hs,hq,hd,by simp[Ri,e,hs,hd]⟩
end Go.Proofs.YtlhehdgciafakaaGreatDoor.P
end
section
namespace Go.Proofs.YtlhehdgciafakaaGreatDoor.P
open Go Go.az
theorem Rk{C H:List Text}(hA:kv H)(hP:vA H)(tM:∀ d∈H,d∈C)(zC:∀ c∈C,∃ d∈H,Nm.under c d=true)(aL:∀ c∈C,c≠[]) :
  ∀ (rest done:List Text) (cut:Text) (k:Nat),kv (done++rest)->(∀ c∈C,c∈done++rest)->k<=H.length->(match done.getLast? with|none=>cut=[]|some p=>tL H p cut)->(∀ m d,m<k->H[m]?=some d->∃ p,done.getLast?=some p/\bH d p<=0)->∀ (i:Nat) (n r:Text),rest[i]?=some n->(oV H k rest)[i]?=some r->tL H n r
 |[],_,_,_,_,_,_,_,_=>fun i n r h=>by simp at h
 |n::rest,done,cut,k,tO,aM,hk,hcut,lQ=>by
  have pJ:∀ p,done.getLast?=some p->bH p n<=0:=fun p hp=>by
   have hl:0<done.length:=by cases done with|nil=>simp at hp|cons=>simp
   rw[alm]at hp;exact tO (done.length-1) done.length p n oM (by rw[ahT oM];exact hp) sP
  have EH:∀ d∈H,bH d n<0->∃ p,done.getLast?=some p/\bH d p<=0:=fun d hd tN=>by
   have:=aM d (tM d hd);obtain⟨i,hi⟩:=aiN this;have sN:(done++n::rest)[done.length]?=some n:=by simp
   have ai:i<done.length:=by
    rcases Nat.lt_trichotomy i done.length with h|h|h
    ·exact h
    ·subst h;rw[sN]at hi;cases hi;rw[qH]at tN;omega
    ·have h1:=tO done.length i n d h sN hi;have h2:=BV d n;omega
   rw[ahT ai]at hi;obtain⟨p,hp⟩:=aI (l:=done) (k:=done.length-1) oM;refine⟨p,by rw[alm];exact hp,?_⟩;rcases Nat.lt_or_ge i (done.length-1)with h|h
   ·exact tO i (done.length-1) d p h (by rw[ahT ai];exact hi) (by rw[ahT oM];exact hp)
   ·obtain rfl:i=done.length-1:=by omega
    rw[hp]at hi;cases hi;rw[qH];omega
  obtain⟨f2,f3⟩:=Pn hA hP (n:=n) hk (fun m d hm hd=>by
   obtain⟨p,hp,jU⟩:=lQ m d hm hd
   exact EG jU (pJ p hp))
  have ih:=Rk hA hP tM zC aL rest (done++[n]) (nW H n (fM H n k)) (fM H n k) (zD tO) (zD aM) (Ew hk) (zD f2) (fun m d hm hd=>⟨n,by simp,f3 m d hm hd⟩);intro i m r hm hr;cases i with
  |zero =>
   simp at hm;subst hm;simp only[oV,List.getElem?_cons_zero,Option.some.injEq]at hr;subst hr;exact f2
  |succ i=>exact ih i m r (zD hm) (by simpa [oV]using hr)
end Go.Proofs.YtlhehdgciafakaaGreatDoor.P
end
section
namespace Go.az
open Go Go.RowKit
section
variable {E:Env} {s:List AV} {h:List ae}
theorem abR{t:Nat}{x:Operand}{n:Int}{kt et:TypeId}(hu:E.P.underlying t=some (.map kt et))(hx:bk E.G s x (.d (.int .i64 n))):bE E (.makeMap t (some x)) s h (.map h.length) (h++[.map []]):=fun o c ac h1 h2 h3 h4=>by
 subst h2;have hv:=hx c ac h3 h4;obtain⟨k1,k2⟩:=h3.add (.map []) 0 (.map #[] 0);have bN:(c.add (.map []) 0 (.map #[] 0)).own c.heap.length=some (c.w.heap.size,0):=by simp[Cx.add]
 have oE:(c.add (.map []) 0 (.map #[] 0)).heap[c.heap.length]?=some (.map []):=by simp[Cx.add]
 refine⟨_,.map (some c.w.heap.size),.inl ?_,rfl,k2 ⟨c.w.heap.size,0,#[],0,bN,heap_alloc_new _ _,⟨rfl,by simp,by simp,by simp,rfl⟩,fun j k x m hj=>by simp at hj⟩,.map c.heap.length [] c.w.heap.size 0 oE bN,k1⟩;generalize y4:ac.eval x=u at hv;cases hv with
 |d _ _ hv =>
  cases hv;simp only[execOp,h1,Option.map_some,y4,Instr.makeMap,Sem.run_bind,Sem.run_pure,run_underlying hu,Result.andThen_ok];rfl
end
section
variable {E:Env} {aj:FuncId} {R:cT} {ops:Array Oper} {k:List aY} {F:List Nat} {n:Nat} {B:List Nat} {X:List ae} {lits:List Nat} {j:Nat} {o:Oper} {l:List Oper} {s:List AV} {h:List ae}
end
end Go.az
end
section
namespace Go.Proofs
open Go.Shelf
def Tryz.ae1:Go.Shelf.Ren:=⟨fun|178=>257|251=>258|252=>259|181=>109|184=>315|290=>316|324=>337|n=>n,fun|130=>253|9=>9|3=>3|75=>249|0=>0|93=>188|91=>186|131=>261|4=>4|37=>105|20=>20|80=>288|5=>5|n=>n,fun|14=>1|n=>n⟩
theorem Tryz.SZ:Go.Proofs.LaysM.n178 Tryz.prog Tryz.ae1:={
 mixed:=by kernel_rfl
 f178:=Tryz.func257.trans (congrArg some (by kernel_rfl))
 f181:=Tryz.func109.trans (congrArg some (by kernel_rfl))
 f184:=Tryz.func315.trans (congrArg some (by kernel_rfl))
 f251:=Tryz.func258.trans (congrArg some (by kernel_rfl))
 f252:=Tryz.func259.trans (congrArg some (by kernel_rfl))
 f290:=Tryz.func316.trans (congrArg some (by kernel_rfl))
 f324:=Tryz.func337.trans (congrArg some (by kernel_rfl))
 t0:=Tryz.underlying0
 a0:=Tryz.isAgg0
 z0:=Tryz.sizeOf0
 v0:=Tryz.zeroValue0
 t3:=Tryz.underlying3
 a3:=Tryz.isAgg3
 z3:=Tryz.sizeOf3
 v3:=Tryz.zeroValue3
 t4:=Tryz.underlying4
 a4:=Tryz.isAgg4
 z4:=Tryz.sizeOf4
 v4:=Tryz.zeroValue4
 t9:=Tryz.underlying9
 a9:=Tryz.isAgg9
 z9:=Tryz.sizeOf9
 v9:=Tryz.zeroValue9
 t20:=Tryz.underlying20
 a20:=Tryz.isAgg20
 z20:=Tryz.sizeOf20
 v20:=Tryz.zeroValue20
 t37:=Tryz.underlying105
 a37:=Tryz.isAgg105
 z37:=Tryz.sizeOf105
 v37:=Tryz.zeroValue105
 t75:=Tryz.underlying249
 a75:=Tryz.isAgg249
 z75:=Tryz.sizeOf249
 v75:=Tryz.zeroValue249
 t91:=Tryz.underlying186
 a91:=Tryz.isAgg186
 z91:=Tryz.sizeOf186
 v91:=Tryz.zeroValue186
 t93:=Tryz.underlying188
 a93:=Tryz.isAgg188
 z93:=Tryz.sizeOf188
 v93:=Tryz.zeroValue188
 t130:=Tryz.underlying253
 a130:=Tryz.isAgg253
 z130:=Tryz.sizeOf253
 v130:=Tryz.zeroValue253
 t131:=Tryz.underlying261
 a131:=Tryz.isAgg261
 z131:=Tryz.sizeOf261
 v131:=Tryz.zeroValue261
 g14:=by kernel_rfl
 t5:=Tryz.underlying5
 a5:=Tryz.isAgg5
 z5:=Tryz.sizeOf5
 v5:=Tryz.zeroValue5
 t80:=Tryz.underlying288
 a80:=Tryz.isAgg288
 z80:=Tryz.sizeOf288
 v80:=Tryz.zeroValue288
 i0:=by kernel_rfl
 i3:=by kernel_rfl
 i4:=by kernel_rfl
 i5:=by kernel_rfl
 i9:=by kernel_rfl
 i20:=by kernel_rfl
 i37:=by kernel_rfl
 i75:=by kernel_rfl
 i80:=by kernel_rfl
 i91:=by kernel_rfl
 i93:=by kernel_rfl
 i130:=by kernel_rfl
 i131:=by kernel_rfl
 m14:=by kernel_rfl }
def Tryz.ae2:Go.Shelf.Ren:=⟨fun|179=>185|251=>258|252=>259|181=>109|184=>315|290=>316|324=>337|n=>n,fun|130=>253|5=>5|75=>249|0=>0|93=>188|91=>186|3=>3|131=>261|4=>4|37=>105|20=>20|80=>288|9=>9|n=>n,fun|14=>1|n=>n⟩
theorem Tryz.S0:Go.Proofs.LaysM.n179 Tryz.prog Tryz.ae2:={
 mixed:=by kernel_rfl
 f179:=Tryz.func185.trans (congrArg some (by kernel_rfl))
 f181:=Tryz.func109.trans (congrArg some (by kernel_rfl))
 f184:=Tryz.func315.trans (congrArg some (by kernel_rfl))
 f251:=Tryz.func258.trans (congrArg some (by kernel_rfl))
 f252:=Tryz.func259.trans (congrArg some (by kernel_rfl))
 f290:=Tryz.func316.trans (congrArg some (by kernel_rfl))
 f324:=Tryz.func337.trans (congrArg some (by kernel_rfl))
 t0:=Tryz.underlying0
 a0:=Tryz.isAgg0
 z0:=Tryz.sizeOf0
 v0:=Tryz.zeroValue0
 t3:=Tryz.underlying3
 a3:=Tryz.isAgg3
 z3:=Tryz.sizeOf3
 v3:=Tryz.zeroValue3
 t4:=Tryz.underlying4
 a4:=Tryz.isAgg4
 z4:=Tryz.sizeOf4
 v4:=Tryz.zeroValue4
 t5:=Tryz.underlying5
 a5:=Tryz.isAgg5
 z5:=Tryz.sizeOf5
 v5:=Tryz.zeroValue5
 t20:=Tryz.underlying20
 a20:=Tryz.isAgg20
 z20:=Tryz.sizeOf20
 v20:=Tryz.zeroValue20
 t37:=Tryz.underlying105
 a37:=Tryz.isAgg105
 z37:=Tryz.sizeOf105
 v37:=Tryz.zeroValue105
 t75:=Tryz.underlying249
 a75:=Tryz.isAgg249
 z75:=Tryz.sizeOf249
 v75:=Tryz.zeroValue249
 t91:=Tryz.underlying186
 a91:=Tryz.isAgg186
 z91:=Tryz.sizeOf186
 v91:=Tryz.zeroValue186
 t93:=Tryz.underlying188
 a93:=Tryz.isAgg188
 z93:=Tryz.sizeOf188
 v93:=Tryz.zeroValue188
 t130:=Tryz.underlying253
 a130:=Tryz.isAgg253
 z130:=Tryz.sizeOf253
 v130:=Tryz.zeroValue253
 t131:=Tryz.underlying261
 a131:=Tryz.isAgg261
 z131:=Tryz.sizeOf261
 v131:=Tryz.zeroValue261
 g14:=by kernel_rfl
 t9:=Tryz.underlying9
 a9:=Tryz.isAgg9
 z9:=Tryz.sizeOf9
 v9:=Tryz.zeroValue9
 t80:=Tryz.underlying288
 a80:=Tryz.isAgg288
 z80:=Tryz.sizeOf288
 v80:=Tryz.zeroValue288
 i0:=by kernel_rfl
 i3:=by kernel_rfl
 i4:=by kernel_rfl
 i5:=by kernel_rfl
 i9:=by kernel_rfl
 i20:=by kernel_rfl
 i37:=by kernel_rfl
 i75:=by kernel_rfl
 i80:=by kernel_rfl
 i91:=by kernel_rfl
 i93:=by kernel_rfl
 i130:=by kernel_rfl
 i131:=by kernel_rfl
 m14:=by kernel_rfl }
def Tryz.ae3:Go.Shelf.Ren:=⟨fun|180=>256|251=>258|252=>259|181=>109|184=>315|290=>316|324=>337|n=>n,fun|130=>253|37=>105|3=>3|75=>249|0=>0|93=>188|91=>186|131=>261|4=>4|20=>20|5=>5|80=>288|9=>9|n=>n,fun|14=>1|n=>n⟩
theorem Tryz.ae4:Go.Proofs.LaysM.n180 Tryz.prog Tryz.ae3:={
 mixed:=by kernel_rfl
 f180:=Tryz.func256.trans (congrArg some (by kernel_rfl))
 f181:=Tryz.func109.trans (congrArg some (by kernel_rfl))
 f184:=Tryz.func315.trans (congrArg some (by kernel_rfl))
 f251:=Tryz.func258.trans (congrArg some (by kernel_rfl))
 f252:=Tryz.func259.trans (congrArg some (by kernel_rfl))
 f290:=Tryz.func316.trans (congrArg some (by kernel_rfl))
 f324:=Tryz.func337.trans (congrArg some (by kernel_rfl))
 t0:=Tryz.underlying0
 a0:=Tryz.isAgg0
 z0:=Tryz.sizeOf0
 v0:=Tryz.zeroValue0
 t3:=Tryz.underlying3
 a3:=Tryz.isAgg3
 z3:=Tryz.sizeOf3
 v3:=Tryz.zeroValue3
 t4:=Tryz.underlying4
 a4:=Tryz.isAgg4
 z4:=Tryz.sizeOf4
 v4:=Tryz.zeroValue4
 t20:=Tryz.underlying20
 a20:=Tryz.isAgg20
 z20:=Tryz.sizeOf20
 v20:=Tryz.zeroValue20
 t37:=Tryz.underlying105
 a37:=Tryz.isAgg105
 z37:=Tryz.sizeOf105
 v37:=Tryz.zeroValue105
 t75:=Tryz.underlying249
 a75:=Tryz.isAgg249
 z75:=Tryz.sizeOf249
 v75:=Tryz.zeroValue249
 t91:=Tryz.underlying186
 a91:=Tryz.isAgg186
 z91:=Tryz.sizeOf186
 v91:=Tryz.zeroValue186
 t93:=Tryz.underlying188
 a93:=Tryz.isAgg188
 z93:=Tryz.sizeOf188
 v93:=Tryz.zeroValue188
 t130:=Tryz.underlying253
 a130:=Tryz.isAgg253
 z130:=Tryz.sizeOf253
 v130:=Tryz.zeroValue253
 t131:=Tryz.underlying261
 a131:=Tryz.isAgg261
 z131:=Tryz.sizeOf261
 v131:=Tryz.zeroValue261
 g14:=by kernel_rfl
 t5:=Tryz.underlying5
 a5:=Tryz.isAgg5
 z5:=Tryz.sizeOf5
 v5:=Tryz.zeroValue5
 t9:=Tryz.underlying9
 a9:=Tryz.isAgg9
 z9:=Tryz.sizeOf9
 v9:=Tryz.zeroValue9
 t80:=Tryz.underlying288
 a80:=Tryz.isAgg288
 z80:=Tryz.sizeOf288
 v80:=Tryz.zeroValue288
 i0:=by kernel_rfl
 i3:=by kernel_rfl
 i4:=by kernel_rfl
 i5:=by kernel_rfl
 i9:=by kernel_rfl
 i20:=by kernel_rfl
 i37:=by kernel_rfl
 i75:=by kernel_rfl
 i80:=by kernel_rfl
 i91:=by kernel_rfl
 i93:=by kernel_rfl
 i130:=by kernel_rfl
 i131:=by kernel_rfl
 m14:=by kernel_rfl }
end Go.Proofs
end
