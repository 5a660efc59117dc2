/- Lemmas of mine. Conditions: as stated. -/
import Derived.Test.YtfmdaiojokniiaaGreatDoorU7
import Derived.Test.YtfmdaiojokniiaaGreatDoorU8
set_option linter.unusedVariables false
set_option linter.unusedSimpArgs false
section
namespace Go.Proofs.YtfmdaiojokniiaaGreatDoor.P
open Go Go.ay
set_option maxRecDepth 100000
set_option maxHeartbeats 4000000
theorem VF(l:List DV)(hl:l.length<=2147483648)(hc:∀ e∈l,e.cells.length=5):aq E 61 [.sl l] (· = .sl l):=by
 by_cases h:l=[]
 ·subst h;refine aq.norm ?_;refine eP F61 ?_;refine I.lF ab rfl rfl rfl rfl (aS rfl) (fun b hb=>?_);cases b
  ·refine gO F61 ?_;refine aR ?_;refine gO F61 ?_;refine aV ⟨by decide,fun e he=>by cases he⟩ ?_;refine gO F61 ?_;rfl
  ·refine gO F61 ?_;refine bj ?_;refine gO F61 ?_;rfl
 ·refine eP F61 ?_;refine I.lF ab rfl rfl rfl rfl (aS rfl) (fun b hb=>?_);obtain rfl:b=false:=by
   cases b
   ·rfl
   ·exact absurd (hb rfl) h
  refine gO F61 ?_;refine aR ?_;refine gO F61 ?_;refine aV ⟨by simp;omega,hc⟩ ?_;refine gO F61 ?_;rfl
theorem VG(l:List DV)(h:l≠[])(hl:l.length<=2147483648)(hc:∀ e∈l,e.cells.length=5):ar E 61 [] [.d (.sl l)] (fun a b=>a=.own 0 1/\b=[.arr 1 (68,5) l]):=by
 refine ar.run ab (fn:=Tryz.f61) Tryz.func61 (body:=Tryz.f61.body.getD .skip) rfl (by decide) 2000 rfl ?_;(conv=>whnf);refine I.lF ab rfl rfl rfl rfl (aS rfl) (fun b hb=>?_);obtain rfl:b=false:=by
  cases b
  ·rfl
  ·exact absurd (hb rfl) h
 refine gO F61 ?_;refine aR ?_;refine gO F61 ?_;refine aV ⟨by simp;omega,hc⟩ ?_;refine gO F61 ?_;exact⟨rfl,rfl⟩
theorem MS(l:List DV)(hl:l.length<=2147483648)(hc:∀ e∈l,e.cells.length=3):aq E 63 [.sl l] (· = .sl l):=by
 by_cases h:l=[]
 ·subst h;refine aq.norm ?_;refine eP F63 ?_;refine I.lF ab rfl rfl rfl rfl (aS rfl) (fun b hb=>?_);cases b
  ·refine gO F63 ?_;refine aR ?_;refine gO F63 ?_;refine aV ⟨by decide,fun e he=>by cases he⟩ ?_;refine gO F63 ?_;rfl
  ·refine gO F63 ?_;refine bj ?_;refine gO F63 ?_;rfl
 ·refine eP F63 ?_;refine I.lF ab rfl rfl rfl rfl (aS rfl) (fun b hb=>?_);obtain rfl:b=false:=by
   cases b
   ·rfl
   ·exact absurd (hb rfl) h
  refine gO F63 ?_;refine aR ?_;refine gO F63 ?_;refine aV ⟨by simp;omega,hc⟩ ?_;refine gO F63 ?_;rfl
theorem C0(l:List DV)(hl:l.length<=2147483648)(hc:∀ e∈l,e.cells.length=3):aq E 64 [.sl l] (· = .sl l):=by
 by_cases h:l=[]
 ·subst h;refine aq.norm ?_;refine eP F64 ?_;refine I.lF ab rfl rfl rfl rfl (aS rfl) (fun b hb=>?_);cases b
  ·refine gO F64 ?_;refine aR ?_;refine gO F64 ?_;refine aV ⟨by decide,fun e he=>by cases he⟩ ?_;refine gO F64 ?_;rfl
  ·refine gO F64 ?_;refine bj ?_;refine gO F64 ?_;rfl
 ·refine eP F64 ?_;refine I.lF ab rfl rfl rfl rfl (aS rfl) (fun b hb=>?_);obtain rfl:b=false:=by
   cases b
   ·rfl
   ·exact absurd (hb rfl) h
  refine gO F64 ?_;refine aR ?_;refine gO F64 ?_;refine aV ⟨by simp;omega,hc⟩ ?_;refine gO F64 ?_;rfl
theorem MT(l:List DV)(hl:l.length<=2147483648)(hc:∀ e∈l,e.cells.length=1):aq E 65 [.sl l] (· = .sl l):=by
 by_cases h:l=[]
 ·subst h;refine aq.norm ?_;refine eP F65 ?_;refine I.lF ab rfl rfl rfl rfl (aS rfl) (fun b hb=>?_);cases b
  ·refine gO F65 ?_;refine aR ?_;refine gO F65 ?_;refine aV ⟨by decide,fun e he=>by cases he⟩ ?_;refine gO F65 ?_;rfl
  ·refine gO F65 ?_;refine bj ?_;refine gO F65 ?_;rfl
 ·refine eP F65 ?_;refine I.lF ab rfl rfl rfl rfl (aS rfl) (fun b hb=>?_);obtain rfl:b=false:=by
   cases b
   ·rfl
   ·exact absurd (hb rfl) h
  refine gO F65 ?_;refine aR ?_;refine gO F65 ?_;refine aV ⟨by simp;omega,hc⟩ ?_;refine gO F65 ?_;rfl
theorem VH(l:List DV)(hl:l.length<=2147483648)(hc:∀ e∈l,e.cells.length=5):aq E 134 [.sl l] (· = .sl l):=by
 by_cases h:l=[]
 ·subst h;refine aq.norm ?_;refine eP F134 ?_;refine I.lF ab rfl rfl rfl rfl (aS rfl) (fun b hb=>?_);cases b
  ·refine gO F134 ?_;refine aR ?_;refine gO F134 ?_;refine aV ⟨by decide,fun e he=>by cases he⟩ ?_;refine gO F134 ?_;rfl
  ·refine gO F134 ?_;refine bj ?_;refine gO F134 ?_;rfl
 ·refine eP F134 ?_;refine I.lF ab rfl rfl rfl rfl (aS rfl) (fun b hb=>?_);obtain rfl:b=false:=by
   cases b
   ·rfl
   ·exact absurd (hb rfl) h
  refine gO F134 ?_;refine aR ?_;refine gO F134 ?_;refine aV ⟨by simp;omega,hc⟩ ?_;refine gO F134 ?_;rfl
theorem VI(l:List DV)(h:l≠[])(hl:l.length<=2147483648)(hc:∀ e∈l,e.cells.length=5):ar E 134 [] [.d (.sl l)] (fun a b=>a=.own 0 1/\b=[.arr 1 (102,5) l]):=by
 refine ar.run ab (fn:=Tryz.f134) Tryz.func134 (body:=Tryz.f134.body.getD .skip) rfl (by decide) 2000 rfl ?_;(conv=>whnf);refine I.lF ab rfl rfl rfl rfl (aS rfl) (fun b hb=>?_);obtain rfl:b=false:=by
  cases b
  ·rfl
  ·exact absurd (hb rfl) h
 refine gO F134 ?_;refine aR ?_;refine gO F134 ?_;refine aV ⟨by simp;omega,hc⟩ ?_;refine gO F134 ?_;exact⟨rfl,rfl⟩
theorem MU(l:List DV)(hl:l.length<=2147483648)(hc:∀ e∈l,e.cells.length=6):aq E 135 [.sl l] (· = .sl l):=by
 by_cases h:l=[]
 ·subst h;refine aq.norm ?_;refine eP F135 ?_;refine I.lF ab rfl rfl rfl rfl (aS rfl) (fun b hb=>?_);cases b
  ·refine gO F135 ?_;refine aR ?_;refine gO F135 ?_;refine aV ⟨by decide,fun e he=>by cases he⟩ ?_;refine gO F135 ?_;rfl
  ·refine gO F135 ?_;refine bj ?_;refine gO F135 ?_;rfl
 ·refine eP F135 ?_;refine I.lF ab rfl rfl rfl rfl (aS rfl) (fun b hb=>?_);obtain rfl:b=false:=by
   cases b
   ·rfl
   ·exact absurd (hb rfl) h
  refine gO F135 ?_;refine aR ?_;refine gO F135 ?_;refine aV ⟨by simp;omega,hc⟩ ?_;refine gO F135 ?_;rfl
structure aX.lP(z:aX):Prop where
 ae:z.ae.length<=2147483648
 each:∀ s∈z.ae,s.set.data.length<=2147483648/\s.sigs.length<=2147483648
theorem MV{z:aX}(h:eB z=true):z.lP:=by
 simp only[eB,Bool.and_eq_true]at h;obtain⟨h1,h2,h3,h4,h5⟩:=h;obtain⟨q1,q2,q3⟩:=xz h1;refine⟨by omega,fun s hs=>⟨?_,?_⟩⟩
 ·have:=q2 s hs;simp only[fo,Bool.and_eq_true]at this;have:=xr this.1;omega
 ·obtain⟨i,hi⟩:=List.getElem?_of_mem hs;have ah:=aQ hi;obtain⟨o,ho⟩:=aG (l:=rj z) (k:=i) (by rw[GF];exact ah);have hm:(s,o)∈z.ae.zip (rj z):=List.mem_of_getElem? (i:=i) (by rw[List.getElem?_zip_eq_some];exact⟨hi,ho⟩);have h6:=List.all_eq_true.1 h5 _ hm;simp only[vf,jC,Bool.and_eq_true,decide_eq_true_eq]at h6;omega
theorem C1{z:aX}(hg:z.Good)(h:lN z=true):z.Fits/\z.lP/\z.kS:=by
 simp only[lN,Bool.and_eq_true,decide_eq_true_eq]at h;obtain⟨h1,h2⟩:=h;rw[List.take_of_length_le (by omega)]at h1;have he:∀ s∈z.ae,s.set.data.length<=20/\s.sigs.length<=20:=fun s hs=>by
  have:=List.all_eq_true.1 h1 s hs;simp[xw]at this;omega
 refine⟨⟨hg.1,fun s hs=>⟨((hg.2.2 s hs).1).1,by have:=he s hs;omega,fun d hd=>(((hg.2.2 s hs).1).2.2.2.2 d hd).1⟩⟩,⟨by omega,fun s hs=>by have:=he s hs;omega⟩,⟨by omega,fun s hs=>⟨by have:=he s hs;omega,by have:=he s hs;omega⟩⟩⟩
theorem MW{l:List Signed}{i:Nat}{x:Signed}(h:l[i]?=some x):(l.map Signed.enc).set i x.enc=l.map Signed.enc:=by
 apply List.ext_getElem?;intro j;rw[List.getElem?_set];split
 ·rename_i e;subst e;have ah:=aQ h;rw[if_pos (by simpa using ah),List.getElem?_map,h];rfl
 ·rfl
theorem VJ(z:aX)(hf:z.lP):aq E 62 [z.enc] (· = z.enc):=by
 obtain⟨aj,l⟩:=z;obtain⟨hl,he⟩:=hf;simp only at hl he;have dA:∀ e∈l.map Signed.enc,e.cells.length=5:=fun e h=>by
  obtain⟨x,_,rfl⟩:=List.mem_map.1 h;rfl
 show aq E _ [DV.agg [.str aj,.sl (l.map Signed.enc)]] _;by_cases h:l=[]
 ·subst h;show aq E _ [DV.agg [.str aj,.sl []]] _;refine eP F62 ?_
  with_reducible refine ao (VH [] (by simp) (by simp)) ?_
  refine gO F62 ?_;refine I.mg ?_;refine I.run ab F62 2000 ?_;(conv=>whnf);refine aW (by simp) ?_;refine gO F62 ?_;rfl
 ·refine eP F62 ?_;refine wV (VI (l.map Signed.enc) (by simpa using h) (by simpa using hl) dA) rfl ?_;refine gO F62 ?_;refine I.loop (κ:=Nat) ([3]++rg 11 30) (fun k=>[(11,.d (.int .i64 k))]) (fun k=>[(2,.arr 1 (102,5) (l.map Signed.enc))]) (fun k=>k<=l.length) (fun k=>l.length-k) 0 (Nat.zero_le _) ?_ ?_
  ·exact sZ
  intro k hk IH;refine I.head ab F62 2000 ?_;(conv=>whnf);refine ai (fun h5=>?_) (fun h5=>?_)
  ·have ah:k<l.length:=by simpa using h5
   obtain⟨x,hx⟩:=aG ah;obtain⟨q1,q2⟩:=he x (List.mem_of_getElem? hx);have VK:(l.map Signed.enc).set (k:Int).toNat (DV.agg [.str x.set.name,.int .i64 x.set.type,.int .i64 x.set.cy,.sl (x.set.data.map Datum.enc),pF x.sigs])=l.map Signed.enc:=MW hx;have VM:(l.map Signed.enc).set (k:Int).toNat (DV.agg [.str x.set.name,.int .i64 x.set.type,.int .i64 x.set.cy,pE x.set.data,.sl (x.sigs.map da.enc)])=l.map Signed.enc:=MW hx;refine gO F62 ?_;refine I.bJ ab bG 2000 (by kernel_rfl) ?_;(conv=>whnf);have hb:0<=(k:Int)/\(k:Int)<((l.map Signed.enc).length:Int):=⟨by omega,by simp;omega⟩;refine aV hb ?_;refine gD ?_;refine aB (e:=x.enc) (aN hx) rfl ?_;refine gD ?_;refine au (C0 (x.set.data.map Datum.enc) (by simpa using q1) (fun e h=>by obtain⟨d,_,rfl⟩:=List.mem_map.1 h;simp[DV.cells])) ?_;refine gD ?_;refine aV hb ?_;refine gD ?_;refine aB (e:=x.enc) (aN hx) rfl ?_;refine gD ?_;refine And.intro (by kernel_rfl) ?_;(conv=>whnf);rw[VK];refine gO F62 ?_;refine I.bJ ab bG 2000 (by kernel_rfl) ?_;(conv=>whnf);refine aV hb ?_;refine gD ?_;refine aB (e:=x.enc) (aN hx) rfl ?_;refine gD ?_;refine au (MU (x.sigs.map da.enc) (by simpa using q2) (fun e h=>by obtain⟨d,_,rfl⟩:=List.mem_map.1 h;simp[DV.cells])) ?_;refine gD ?_;refine aV hb ?_;refine gD ?_;refine aB (e:=x.enc) (aN hx) rfl ?_;refine gD ?_;refine And.intro (by kernel_rfl) ?_;(conv=>whnf);rw[VM];refine gO F62 ?_;refine I.back (IH (k+1) (by omega) (by omega)) ?_;exact sZ
  ·refine gO F62 ?_
   with_reducible rfl
theorem Zj{α:Type}{l:List α}{k:Nat}(h:k<l.length):∃ x,l[k]?=some x:=⟨l[k],by simp⟩
def Oz(z:aX):Int:=match z.ae[(bh z.ae ⟨z.aj,4⟩).toNat]? with
 |some s=>(match s.set.data[0]? with|some d=>d.n|none=>0)
 |none=>0
theorem OA{i j:Nat}(h:i+j<=4294967296):IntKind.i64.wrap (lu .shr .u64 (IntKind.u64.wrap (IntKind.i64.wrap ((i:Int)+j))) (Int.toNat 1))=(((i+j) / 2:Nat):Int):=Ml h
theorem Zk{z:aX}(h:eB z=true):∃ (k:Nat) (s:Signed) (d:Datum),bh z.ae ⟨z.aj,4⟩=k/\z.ae[k]?=some s/\cZ ⟨z.aj,4⟩ s=true/\s.set.data[0]?=some d/\Oz z=d.n:=by
 have h0:=h;simp only[eB,Bool.and_eq_true]at h;obtain⟨h1,h2,h3,h4,h5⟩:=h;simp only[ra,Bool.and_eq_true,Bool.not_eq_true',decide_eq_false_iff_not]at h2;have h6:=h2.1.1;cases hf:z.ae.findIdx? (cZ ⟨z.aj,4⟩)with
 |none=>simp[bh,hf]at h6
 |some k =>
  obtain⟨hk,hq,_⟩:=List.findIdx?_eq_some_iff_getElem.1 hf;have hs:z.ae[k]?=some z.ae[k]:=List.getElem?_eq_getElem hk;obtain⟨q1,q2,q3⟩:=xz h1;have aM:=q2 z.ae[k] (List.getElem_mem hk);simp only[fo,Bool.and_eq_true]at aM;have hl:=xr aM.1;obtain⟨d,hd⟩:=Zj (l:=z.ae[k].set.data) (k:=0) (by omega);have e:bh z.ae ⟨z.aj,4⟩=k:=by simp[bh,hf]
  exact⟨k,z.ae[k],d,e,hs,hq,hd,by simp[Oz,e,hs,hd]⟩
end Go.Proofs.YtfmdaiojokniiaaGreatDoor.P
end
section
namespace Go.ay
open Go Go.RowKit
section
variable {E:Env} {s:List AV} {h:List af}
theorem Zv{t:Nat}{x:Operand}{n:Int}{kt et:TypeId}(hu:E.P.underlying t=some (.map kt et))(hx:aZ E.G s x (.d (.int .i64 n))):bw E (.makeMap t (some x)) s h (.map h.length) (h++[.map []]):=fun o c ac h1 h2 h3 h4=>by
 subst h2;have hv:=hx c ac h3 h4;obtain⟨k1,k2⟩:=h3.add (.map []) 0 (.map #[] 0);have bF:(c.add (.map []) 0 (.map #[] 0)).own c.heap.length=some (c.w.heap.size,0):=by simp[Cx.add]
 have mT:(c.add (.map []) 0 (.map #[] 0)).heap[c.heap.length]?=some (.map []):=by simp[Cx.add]
 refine⟨_,.map (some c.w.heap.size),.inl ?_,rfl,k2 ⟨c.w.heap.size,0,#[],0,bF,heap_alloc_new _ _,⟨rfl,by simp,by simp,by simp,rfl⟩,fun j k x m hj=>by simp at hj⟩,.map c.heap.length [] c.w.heap.size 0 mT bF,k1⟩;generalize xa:ac.eval x=u at hv;cases hv with
 |d _ _ hv =>
  cases hv;simp only[execOp,h1,Option.map_some,xa,Instr.makeMap,Sem.run_bind,Sem.run_pure,run_underlying hu,Result.andThen_ok];rfl
end
section
variable {E:Env} {ag:FuncId} {R:cF} {ops:Array Oper} {k:List aP} {F:List Nat} {n:Nat} {B:List Nat} {X:List af} {lits:List Nat} {j:Nat} {o:Oper} {l:List Oper} {s:List AV} {h:List af}
end
end Go.ay
end
