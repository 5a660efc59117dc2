/- Lemmas of mine. Conditions: as stated. -/
import Derived.Test.YtfmdaiojokniiaaGreatDoorS10
import Derived.Test.YtfmdaiojokniiaaGreatDoorS11
set_option linter.unusedVariables false
set_option linter.unusedSimpArgs false
open Bool renaming and_eq_true->aft
open List renaming mem_map->aer,mem_of_getElem?->afh,all_eq_true->ad'
section
namespace Go.Proofs.YtfmdaiojokniiaaGreatDoor.P
open Go Go.aA
set_option maxRecDepth 100000
set_option maxHeartbeats 4000000
theorem WJ(l:List DV)(hl:l.length<=2147483648)(hc:∀ e∈l,e.cells.length=5):ar E 61 [.sl l] (· = .sl l):=by
 by_cases h:l=[]
 ·subst h;refine ar.norm ?_;refine eP F61 ?_;refine J.lU ag rfl rfl rfl rfl (aV rfl) (fun b hb=>?_);cases b
  ·refine gO F61 ?_;refine aR ?_;refine gO F61 ?_;refine aW ⟨by decide,fun e he=>by cases he⟩ ?_;refine gO F61 ?_;rfl
  ·refine gO F61 ?_;refine a8 ?_;refine gO F61 ?_;rfl
 ·refine eP F61 ?_;refine J.lU ag rfl rfl rfl rfl (aV rfl) (fun b hb=>?_);obtain rfl:b=false:=by
   cases b
   ·rfl
   ·exact absurd (hb rfl) h
  refine gO F61 ?_;refine aR ?_;refine gO F61 ?_;refine aW ⟨by simp;omega,hc⟩ ?_;refine gO F61 ?_;rfl
theorem WK(l:List DV)(h:l≠[])(hl:l.length<=2147483648)(hc:∀ e∈l,e.cells.length=5):aw E 61 [] [.d (.sl l)] (fun a b=>a=.own 0 1/\b=[.arr 1 (68,5) l]):=by
 refine aw.run ag (fn:=Tryz.f61) Tryz.func61 (body:=Tryz.f61.body.getD .skip) rfl (by decide) 2000 rfl ?_;(conv=>whnf);refine J.lU ag rfl rfl rfl rfl (aV rfl) (fun b hb=>?_);obtain rfl:b=false:=by
  cases b
  ·rfl
  ·exact absurd (hb rfl) h
 refine gO F61 ?_;refine aR ?_;refine gO F61 ?_;refine aW ⟨by simp;omega,hc⟩ ?_;refine gO F61 ?_;exact⟨rfl,rfl⟩
theorem HG(l:List DV)(hl:l.length<=2147483648)(hc:∀ e∈l,e.cells.length=3):ar E 63 [.sl l] (· = .sl l):=by
 by_cases h:l=[]
 ·subst h;refine ar.norm ?_;refine eP F63 ?_;refine J.lU ag rfl rfl rfl rfl (aV rfl) (fun b hb=>?_);cases b
  ·refine gO F63 ?_;refine aR ?_;refine gO F63 ?_;refine aW ⟨by decide,fun e he=>by cases he⟩ ?_;refine gO F63 ?_;rfl
  ·refine gO F63 ?_;refine a8 ?_;refine gO F63 ?_;rfl
 ·refine eP F63 ?_;refine J.lU ag rfl rfl rfl rfl (aV rfl) (fun b hb=>?_);obtain rfl:b=false:=by
   cases b
   ·rfl
   ·exact absurd (hb rfl) h
  refine gO F63 ?_;refine aR ?_;refine gO F63 ?_;refine aW ⟨by simp;omega,hc⟩ ?_;refine gO F63 ?_;rfl
theorem x7(l:List DV)(hl:l.length<=2147483648)(hc:∀ e∈l,e.cells.length=3):ar E 64 [.sl l] (· = .sl l):=by
 by_cases h:l=[]
 ·subst h;refine ar.norm ?_;refine eP F64 ?_;refine J.lU ag rfl rfl rfl rfl (aV rfl) (fun b hb=>?_);cases b
  ·refine gO F64 ?_;refine aR ?_;refine gO F64 ?_;refine aW ⟨by decide,fun e he=>by cases he⟩ ?_;refine gO F64 ?_;rfl
  ·refine gO F64 ?_;refine a8 ?_;refine gO F64 ?_;rfl
 ·refine eP F64 ?_;refine J.lU ag rfl rfl rfl rfl (aV rfl) (fun b hb=>?_);obtain rfl:b=false:=by
   cases b
   ·rfl
   ·exact absurd (hb rfl) h
  refine gO F64 ?_;refine aR ?_;refine gO F64 ?_;refine aW ⟨by simp;omega,hc⟩ ?_;refine gO F64 ?_;rfl
theorem HH(l:List DV)(hl:l.length<=2147483648)(hc:∀ e∈l,e.cells.length=1):ar E 65 [.sl l] (· = .sl l):=by
 by_cases h:l=[]
 ·subst h;refine ar.norm ?_;refine eP F65 ?_;refine J.lU ag rfl rfl rfl rfl (aV rfl) (fun b hb=>?_);cases b
  ·refine gO F65 ?_;refine aR ?_;refine gO F65 ?_;refine aW ⟨by decide,fun e he=>by cases he⟩ ?_;refine gO F65 ?_;rfl
  ·refine gO F65 ?_;refine a8 ?_;refine gO F65 ?_;rfl
 ·refine eP F65 ?_;refine J.lU ag rfl rfl rfl rfl (aV rfl) (fun b hb=>?_);obtain rfl:b=false:=by
   cases b
   ·rfl
   ·exact absurd (hb rfl) h
  refine gO F65 ?_;refine aR ?_;refine gO F65 ?_;refine aW ⟨by simp;omega,hc⟩ ?_;refine gO F65 ?_;rfl
theorem WL(l:List DV)(hl:l.length<=2147483648)(hc:∀ e∈l,e.cells.length=5):ar E 134 [.sl l] (· = .sl l):=by
 by_cases h:l=[]
 ·subst h;refine ar.norm ?_;refine eP F134 ?_;refine J.lU ag rfl rfl rfl rfl (aV rfl) (fun b hb=>?_);cases b
  ·refine gO F134 ?_;refine aR ?_;refine gO F134 ?_;refine aW ⟨by decide,fun e he=>by cases he⟩ ?_;refine gO F134 ?_;rfl
  ·refine gO F134 ?_;refine a8 ?_;refine gO F134 ?_;rfl
 ·refine eP F134 ?_;refine J.lU ag rfl rfl rfl rfl (aV rfl) (fun b hb=>?_);obtain rfl:b=false:=by
   cases b
   ·rfl
   ·exact absurd (hb rfl) h
  refine gO F134 ?_;refine aR ?_;refine gO F134 ?_;refine aW ⟨by simp;omega,hc⟩ ?_;refine gO F134 ?_;rfl
theorem WM(l:List DV)(h:l≠[])(hl:l.length<=2147483648)(hc:∀ e∈l,e.cells.length=5):aw E 134 [] [.d (.sl l)] (fun a b=>a=.own 0 1/\b=[.arr 1 (102,5) l]):=by
 refine aw.run ag (fn:=Tryz.f134) Tryz.func134 (body:=Tryz.f134.body.getD .skip) rfl (by decide) 2000 rfl ?_;(conv=>whnf);refine J.lU ag rfl rfl rfl rfl (aV rfl) (fun b hb=>?_);obtain rfl:b=false:=by
  cases b
  ·rfl
  ·exact absurd (hb rfl) h
 refine gO F134 ?_;refine aR ?_;refine gO F134 ?_;refine aW ⟨by simp;omega,hc⟩ ?_;refine gO F134 ?_;exact⟨rfl,rfl⟩
theorem HI(l:List DV)(hl:l.length<=2147483648)(hc:∀ e∈l,e.cells.length=6):ar E 135 [.sl l] (· = .sl l):=by
 by_cases h:l=[]
 ·subst h;refine ar.norm ?_;refine eP F135 ?_;refine J.lU ag rfl rfl rfl rfl (aV rfl) (fun b hb=>?_);cases b
  ·refine gO F135 ?_;refine aR ?_;refine gO F135 ?_;refine aW ⟨by decide,fun e he=>by cases he⟩ ?_;refine gO F135 ?_;rfl
  ·refine gO F135 ?_;refine a8 ?_;refine gO F135 ?_;rfl
 ·refine eP F135 ?_;refine J.lU ag rfl rfl rfl rfl (aV rfl) (fun b hb=>?_);obtain rfl:b=false:=by
   cases b
   ·rfl
   ·exact absurd (hb rfl) h
  refine gO F135 ?_;refine aR ?_;refine gO F135 ?_;refine aW ⟨by simp;omega,hc⟩ ?_;refine gO F135 ?_;rfl
structure bc.lv(z:bc):Prop where
 ae:z.ae.length<=2147483648
 each:∀ s∈z.ae,s.set.data.length<=2147483648/\s.sigs.length<=2147483648
theorem HJ{z:bc}(h:eu z=true):z.lv:=by
 simp only[eu,aft]at h;obtain⟨h1,h2,h3,h4,h5⟩:=h;obtain⟨q1,q2,q3⟩:=xT h1;refine⟨by omega,fun s hs=>⟨?_,?_⟩⟩
 ·have:=q2 s hs;simp only[fB,aft]at this;have:=vt this.1;omega
 ·obtain⟨i,hi⟩:=List.getElem?_of_mem hs;have ah:=aX hi;obtain⟨o,ho⟩:=aH (l:=rG z) (k:=i) (by rw[Hh];exact ah);have hm:(s,o)∈z.ae.zip (rG z):=afh (i:=i) (by rw[List.getElem?_zip_eq_some];exact⟨hi,ho⟩);have h6:=ad'.1 h5 _ hm;simp only[vC,jS,aft,decide_eq_true_eq]at h6;omega
theorem Dp{z:bc}(hg:z.Good)(h:lr z=true):z.Fits/\z.lv/\z.fO:=by
 simp only[lr,aft,decide_eq_true_eq]at h;obtain⟨h1,h2⟩:=h;rw[List.take_of_length_le (by omega)]at h1;have he:∀ s∈z.ae,s.set.data.length<=20/\s.sigs.length<=20:=fun s hs=>by
  have:=ad'.1 h1 s hs;simp[xQ]at this;omega
 refine⟨⟨hg.1,fun s hs=>⟨((hg.2.2 s hs).1).1,by have:=he s hs;omega,fun d hd=>(((hg.2.2 s hs).1).2.2.2.2 d hd).1⟩⟩,⟨by omega,fun s hs=>by have:=he s hs;omega⟩,⟨by omega,fun s hs=>⟨by have:=he s hs;omega,by have:=he s hs;omega⟩⟩⟩
theorem NO{l:List Signed}{i:Nat}{x:Signed}(h:l[i]?=some x):(l.map Signed.enc).set i x.enc=l.map Signed.enc:=by
 apply List.ext_getElem?;intro j;rw[List.getElem?_set];split
 ·rename_i e;subst e;have ah:=aX h;rw[if_pos (by simpa using ah),List.getElem?_map,h];rfl
 ·rfl
theorem WN(z:bc)(hf:z.lv):ar E 62 [z.enc] (· = z.enc):=by
 obtain⟨ao,l⟩:=z;obtain⟨hl,he⟩:=hf;simp only at hl he;have dL:∀ e∈l.map Signed.enc,e.cells.length=5:=fun e h=>by
  obtain⟨x,_,rfl⟩:=aer.1 h;rfl
 show ar E _ [DV.agg [.str ao,.sl (l.map Signed.enc)]] _;by_cases h:l=[]
 ·subst h;show ar E _ [DV.agg [.str ao,.sl []]] _;refine eP F62 ?_
  with_reducible refine aq (WL [] (by simp) (by simp)) ?_
  refine gO F62 ?_;refine J.mB ?_;refine J.run ag F62 2000 ?_;(conv=>whnf);refine aU (by simp) ?_;refine gO F62 ?_;rfl
 ·refine eP F62 ?_;refine xn (WM (l.map Signed.enc) (by simpa using h) (by simpa using hl) dL) rfl ?_;refine gO F62 ?_;refine J.loop (κ:=Nat) ([3]++rg 11 30) (fun k=>[(11,.d (.int .i64 k))]) (fun k=>[(2,.arr 1 (102,5) (l.map Signed.enc))]) (fun k=>k<=l.length) (fun k=>l.length-k) 0 (Nat.zero_le _) ?_ ?_
  ·exact sZ
  intro k hk IH;refine J.head ag F62 2000 ?_;(conv=>whnf);refine ai (fun h5=>?_) (fun h5=>?_)
  ·have ah:k<l.length:=by simpa using h5
   obtain⟨x,hx⟩:=aH ah;obtain⟨q1,q2⟩:=he x (afh hx);have WO:(l.map Signed.enc).set (k:Int).toNat (DV.agg [.str x.set.name,.int .i64 x.set.type,.int .i64 x.set.bY,.sl (x.set.data.map Datum.enc),pY x.sigs])=l.map Signed.enc:=NO hx;have WQ:(l.map Signed.enc).set (k:Int).toNat (DV.agg [.str x.set.name,.int .i64 x.set.type,.int .i64 x.set.bY,pX x.set.data,.sl (x.sigs.map c9.enc)])=l.map Signed.enc:=NO hx;refine gO F62 ?_;refine dU ?_;have hb:0<=(k:Int)/\(k:Int)<((l.map Signed.enc).length:Int):=⟨by omega,by simp;omega⟩;refine aW hb ?_;refine gD ?_;refine aD (e:=x.enc) (aO hx) rfl ?_;refine gD ?_;refine ax (x7 (x.set.data.map Datum.enc) (by simpa using q1) (fun e h=>by obtain⟨d,_,rfl⟩:=aer.1 h;simp[DV.cells])) ?_;refine gD ?_;refine aW hb ?_;refine gD ?_;refine aD (e:=x.enc) (aO hx) rfl ?_;refine gD ?_;refine And.intro (by kernel_rfl) ?_;(conv=>whnf);rw[WO];refine gO F62 ?_;refine dU ?_;refine aW hb ?_;refine gD ?_;refine aD (e:=x.enc) (aO hx) rfl ?_;refine gD ?_;refine ax (HI (x.sigs.map c9.enc) (by simpa using q2) (fun e h=>by obtain⟨d,_,rfl⟩:=aer.1 h;simp[DV.cells])) ?_;refine gD ?_;refine aW hb ?_;refine gD ?_;refine aD (e:=x.enc) (aO hx) rfl ?_;refine gD ?_;refine And.intro (by kernel_rfl) ?_;(conv=>whnf);rw[WQ];refine gO F62 ?_;refine J.back (IH (k+1) (by omega) (by omega)) ?_;exact sZ
  ·refine gO F62 ?_
   with_reducible rfl
theorem aak{α:Type}{l:List α}{k:Nat}(h:k<l.length):∃ x,l[k]?=some x:=⟨l[k],by simp⟩
def Pp(z:bc):Int:=match z.ae[(bk z.ae ⟨z.ao,4⟩).toNat]? with
 |some s=>(match s.set.data[0]? with|some d=>d.n|none=>0)
 |none=>0
theorem Pq{i j:Nat}(h:i+j<=4294967296):IntKind.i64.wrap (lJ .shr .u64 (IntKind.u64.wrap (IntKind.i64.wrap ((i:Int)+j))) (Int.toNat 1))=(((i+j) / 2:Nat):Int):=Ng h
theorem aal{z:bc}(h:eu z=true):∃ (k:Nat) (s:Signed) (d:Datum),bk z.ae ⟨z.ao,4⟩=k/\z.ae[k]?=some s/\da ⟨z.ao,4⟩ s=true/\s.set.data[0]?=some d/\Pp z=d.n:=by
 have h0:=h;simp only[eu,aft]at h;obtain⟨h1,h2,h3,h4,h5⟩:=h;simp only[rD,aft,Bool.not_eq_true',decide_eq_false_iff_not]at h2;have h6:=h2.1.1;cases hf:z.ae.findIdx? (da ⟨z.ao,4⟩)with
 |none=>simp[bk,hf]at h6
 |some k =>
  obtain⟨hk,hq,_⟩:=List.findIdx?_eq_some_iff_getElem.1 hf;have hs:z.ae[k]?=some z.ae[k]:=List.getElem?_eq_getElem hk;obtain⟨q1,q2,q3⟩:=xT h1;have aP:=q2 z.ae[k] (List.getElem_mem hk);simp only[fB,aft]at aP;have hl:=vt aP.1;obtain⟨d,hd⟩:=aak (l:=z.ae[k].set.data) (k:=0) (by omega);have e:bk z.ae ⟨z.ao,4⟩=k:=by simp[bk,hf]
  exact⟨k,z.ae[k],d,e,hs,hq,hd,by simp[Pp,e,hs,hd]⟩
end Go.Proofs.YtfmdaiojokniiaaGreatDoor.P
end
section
namespace Go.aA
open Go Go.RowKit
section
variable {E:Env} {s:List AV} {h:List af}
theorem aaw{t:Nat}{x:Operand}{n:Int}{kt et:TypeId}(hu:E.P.underlying t=some (.map kt et))(hx:bh E.G s x (.d (.int .i64 n))):bz E (.makeMap t (some x)) s h (.map h.length) (h++[.map []]):=fun o c ac h1 h2 h3 h4=>by
 subst h2;have hv:=hx c ac h3 h4;obtain⟨k1,k2⟩:=h3.add (.map []) 0 (.map #[] 0);have bH:(c.add (.map []) 0 (.map #[] 0)).own c.heap.length=some (c.w.heap.size,0):=by simp[Cx.add]
 have nj:(c.add (.map []) 0 (.map #[] 0)).heap[c.heap.length]?=some (.map []):=by simp[Cx.add]
 refine⟨_,.map (some c.w.heap.size),.inl ?_,rfl,k2 ⟨c.w.heap.size,0,#[],0,bH,heap_alloc_new _ _,⟨rfl,by simp,by simp,by simp,rfl⟩,fun j k x m hj=>by simp at hj⟩,.map c.heap.length [] c.w.heap.size 0 nj bH,k1⟩;generalize xx:ac.eval x=u at hv;cases hv with
 |d _ _ hv =>
  cases hv;simp only[execOp,h1,Option.map_some,xx,Instr.makeMap,Sem.run_bind,Sem.run_pure,run_underlying hu,Result.andThen_ok];rfl
end
section
variable {E:Env} {aj:FuncId} {R:cF} {ops:Array Oper} {k:List aT} {F:List Nat} {n:Nat} {B:List Nat} {X:List af} {lits:List Nat} {j:Nat} {o:Oper} {l:List Oper} {s:List AV} {h:List af}
end
end Go.aA
end
