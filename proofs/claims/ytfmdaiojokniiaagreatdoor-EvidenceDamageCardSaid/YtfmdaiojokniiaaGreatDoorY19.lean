/- Several texts of mine, one behind the other. Conditions: as each says. -/
import Derived.Test.YtfmdaiojokniiaaGreatDoorY17
import Derived.Test.YtfmdaiojokniiaaGreatDoorY18
set_option linter.unusedVariables false
set_option linter.unusedSimpArgs false
section
namespace Go.Proofs.YtfmdaiojokniiaaGreatDoor.P
open Go Go.ax
set_option maxRecDepth 100000
set_option maxHeartbeats 4000000
theorem Q7 (l:List DV) (hl:l.length≤2147483648) (hc:∀ e∈l,e.cells.length=5):aq E 61 [.sl l] (· = .sl l):=by
 by_cases h:l=[]
 ·subst h;refine aq.norm ?_;refine eP Tryz.func61 ?_;refine I.kv af rfl rfl rfl rfl (bg rfl) (fun b hb=>?_);cases b
  ·refine gO Tryz.func61 ?_;refine aQ ?_;refine gO Tryz.func61 ?_;refine bc ⟨by decide,fun e he=>by cases he⟩ ?_;refine gO Tryz.func61 ?_;rfl
  ·refine gO Tryz.func61 ?_;refine aY ?_;refine gO Tryz.func61 ?_;rfl
 ·refine eP Tryz.func61 ?_;refine I.kv af rfl rfl rfl rfl (bg rfl) (fun b hb=>?_);obtain rfl:b=false:=by
   cases b
   ·rfl
   ·exact absurd (hb rfl) h
  refine gO Tryz.func61 ?_;refine aQ ?_;refine gO Tryz.func61 ?_;refine bc ⟨by simp; omega,hc⟩ ?_;refine gO Tryz.func61 ?_;rfl
theorem Q8 (l:List DV) (h:l≠[]) (hl:l.length≤2147483648) (hc:∀ e∈l,e.cells.length=5):aw E 61 [] [.d (.sl l)] (fun a b=>a = .own 0 1∧b=[.arr 1 (68,5) l]):=by
 refine aw.run af (fn:=Tryz.f61) Tryz.func61 (body:=Tryz.f61.body.getD .skip) rfl (by decide) 2000 rfl ?_;(conv=>whnf);refine I.kv af rfl rfl rfl rfl (bg rfl) (fun b hb=>?_);obtain rfl:b=false:=by
  cases b
  ·rfl
  ·exact absurd (hb rfl) h
 refine gO Tryz.func61 ?_;refine aQ ?_;refine gO Tryz.func61 ?_;refine bc ⟨by simp; omega,hc⟩ ?_;refine gO Tryz.func61 ?_;exact ⟨rfl,rfl⟩
theorem Jj (l:List DV) (hl:l.length≤2147483648) (hc:∀ e∈l,e.cells.length=3):aq E 63 [.sl l] (· = .sl l):=by
 by_cases h:l=[]
 ·subst h;refine aq.norm ?_;refine eP Tryz.func63 ?_;refine I.kv af rfl rfl rfl rfl (bg rfl) (fun b hb=>?_);cases b
  ·refine gO Tryz.func63 ?_;refine aQ ?_;refine gO Tryz.func63 ?_;refine bc ⟨by decide,fun e he=>by cases he⟩ ?_;refine gO Tryz.func63 ?_;rfl
  ·refine gO Tryz.func63 ?_;refine aY ?_;refine gO Tryz.func63 ?_;rfl
 ·refine eP Tryz.func63 ?_;refine I.kv af rfl rfl rfl rfl (bg rfl) (fun b hb=>?_);obtain rfl:b=false:=by
   cases b
   ·rfl
   ·exact absurd (hb rfl) h
  refine gO Tryz.func63 ?_;refine aQ ?_;refine gO Tryz.func63 ?_;refine bc ⟨by simp; omega,hc⟩ ?_;refine gO Tryz.func63 ?_;rfl
theorem z8 (l:List DV) (hl:l.length≤2147483648) (hc:∀ e∈l,e.cells.length=3):aq E 64 [.sl l] (· = .sl l):=by
 by_cases h:l=[]
 ·subst h;refine aq.norm ?_;refine eP Tryz.func64 ?_;refine I.kv af rfl rfl rfl rfl (bg rfl) (fun b hb=>?_);cases b
  ·refine gO Tryz.func64 ?_;refine aQ ?_;refine gO Tryz.func64 ?_;refine bc ⟨by decide,fun e he=>by cases he⟩ ?_;refine gO Tryz.func64 ?_;rfl
  ·refine gO Tryz.func64 ?_;refine aY ?_;refine gO Tryz.func64 ?_;rfl
 ·refine eP Tryz.func64 ?_;refine I.kv af rfl rfl rfl rfl (bg rfl) (fun b hb=>?_);obtain rfl:b=false:=by
   cases b
   ·rfl
   ·exact absurd (hb rfl) h
  refine gO Tryz.func64 ?_;refine aQ ?_;refine gO Tryz.func64 ?_;refine bc ⟨by simp; omega,hc⟩ ?_;refine gO Tryz.func64 ?_;rfl
theorem Jk (l:List DV) (hl:l.length≤2147483648) (hc:∀ e∈l,e.cells.length=1):aq E 65 [.sl l] (· = .sl l):=by
 by_cases h:l=[]
 ·subst h;refine aq.norm ?_;refine eP Tryz.func65 ?_;refine I.kv af rfl rfl rfl rfl (bg rfl) (fun b hb=>?_);cases b
  ·refine gO Tryz.func65 ?_;refine aQ ?_;refine gO Tryz.func65 ?_;refine bc ⟨by decide,fun e he=>by cases he⟩ ?_;refine gO Tryz.func65 ?_;rfl
  ·refine gO Tryz.func65 ?_;refine aY ?_;refine gO Tryz.func65 ?_;rfl
 ·refine eP Tryz.func65 ?_;refine I.kv af rfl rfl rfl rfl (bg rfl) (fun b hb=>?_);obtain rfl:b=false:=by
   cases b
   ·rfl
   ·exact absurd (hb rfl) h
  refine gO Tryz.func65 ?_;refine aQ ?_;refine gO Tryz.func65 ?_;refine bc ⟨by simp; omega,hc⟩ ?_;refine gO Tryz.func65 ?_;rfl
theorem Q9 (l:List DV) (hl:l.length≤2147483648) (hc:∀ e∈l,e.cells.length=5):aq E 134 [.sl l] (· = .sl l):=by
 by_cases h:l=[]
 ·subst h;refine aq.norm ?_;refine eP Tryz.func134 ?_;refine I.kv af rfl rfl rfl rfl (bg rfl) (fun b hb=>?_);cases b
  ·refine gO Tryz.func134 ?_;refine aQ ?_;refine gO Tryz.func134 ?_;refine bc ⟨by decide,fun e he=>by cases he⟩ ?_;refine gO Tryz.func134 ?_;rfl
  ·refine gO Tryz.func134 ?_;refine aY ?_;refine gO Tryz.func134 ?_;rfl
 ·refine eP Tryz.func134 ?_;refine I.kv af rfl rfl rfl rfl (bg rfl) (fun b hb=>?_);obtain rfl:b=false:=by
   cases b
   ·rfl
   ·exact absurd (hb rfl) h
  refine gO Tryz.func134 ?_;refine aQ ?_;refine gO Tryz.func134 ?_;refine bc ⟨by simp; omega,hc⟩ ?_;refine gO Tryz.func134 ?_;rfl
theorem Ra (l:List DV) (h:l≠[]) (hl:l.length≤2147483648) (hc:∀ e∈l,e.cells.length=5):aw E 134 [] [.d (.sl l)] (fun a b=>a = .own 0 1∧b=[.arr 1 (102,5) l]):=by
 refine aw.run af (fn:=Tryz.f134) Tryz.func134 (body:=Tryz.f134.body.getD .skip) rfl (by decide) 2000 rfl ?_;(conv=>whnf);refine I.kv af rfl rfl rfl rfl (bg rfl) (fun b hb=>?_);obtain rfl:b=false:=by
  cases b
  ·rfl
  ·exact absurd (hb rfl) h
 refine gO Tryz.func134 ?_;refine aQ ?_;refine gO Tryz.func134 ?_;refine bc ⟨by simp; omega,hc⟩ ?_;refine gO Tryz.func134 ?_;exact ⟨rfl,rfl⟩
theorem Jl (l:List DV) (hl:l.length≤2147483648) (hc:∀ e∈l,e.cells.length=6):aq E 135 [.sl l] (· = .sl l):=by
 by_cases h:l=[]
 ·subst h;refine aq.norm ?_;refine eP Tryz.func135 ?_;refine I.kv af rfl rfl rfl rfl (bg rfl) (fun b hb=>?_);cases b
  ·refine gO Tryz.func135 ?_;refine aQ ?_;refine gO Tryz.func135 ?_;refine bc ⟨by decide,fun e he=>by cases he⟩ ?_;refine gO Tryz.func135 ?_;rfl
  ·refine gO Tryz.func135 ?_;refine aY ?_;refine gO Tryz.func135 ?_;rfl
 ·refine eP Tryz.func135 ?_;refine I.kv af rfl rfl rfl rfl (bg rfl) (fun b hb=>?_);obtain rfl:b=false:=by
   cases b
   ·rfl
   ·exact absurd (hb rfl) h
  refine gO Tryz.func135 ?_;refine aQ ?_;refine gO Tryz.func135 ?_;refine bc ⟨by simp; omega,hc⟩ ?_;refine gO Tryz.func135 ?_;rfl
end Go.Proofs.YtfmdaiojokniiaaGreatDoor.P
end
section
namespace Go.Proofs.YtfmdaiojokniiaaGreatDoor.P
open Go Go.ax
set_option maxRecDepth 100000
set_option maxHeartbeats 4000000
structure aR.jW (z:aR):Prop where
 ab:z.ab.length≤2147483648
 each:∀ s∈z.ab,s.set.data.length≤2147483648∧s.sigs.length≤2147483648
theorem Jm {z:aR} (h:dI z=true):z.jW:=by
 simp only [dI,Bool.and_eq_true] at h;obtain ⟨h1,h2,h3,h4,h5⟩:=h;obtain ⟨q1,q2,q3⟩:=uy h1;refine ⟨by omega,fun s hs=>⟨?_,?_⟩⟩
 ·have:=q2 s hs;simp only [eC,Bool.and_eq_true] at this;have:=zC this.1;omega
 ·obtain ⟨i,hi⟩:=List.getElem?_of_mem hs;have ai:=aT hi;obtain ⟨o,ho⟩:=aD (l:=o4 z) (k:=i) (by rw [Dp]; exact ai);have hm:(s,o)∈z.ab.zip (o4 z):=List.mem_of_getElem? (i:=i) (by rw [List.getElem?_zip_eq_some]; exact ⟨hi,ho⟩);have h6:=List.all_eq_true.1 h5 _ hm;simp only [sf,ln,Bool.and_eq_true,decide_eq_true_eq] at h6;omega
theorem DS {z:aR} (hg:z.Good) (h:jU z=true):z.Fits∧z.jW∧z.mf:=by
 simp only [jU,Bool.and_eq_true,decide_eq_true_eq] at h;obtain ⟨h1,h2⟩:=h;rw [List.take_of_length_le (by omega)] at h1;have he:∀ s∈z.ab,s.set.data.length≤20∧s.sigs.length≤20:=fun s hs=>by
  have:=List.all_eq_true.1 h1 s hs;simp [uu] at this;omega
 refine ⟨⟨hg.1,fun s hs=>⟨((hg.2.2 s hs).1).1,by have:=he s hs; omega,fun d hd=>(((hg.2.2 s hs).1).2.2.2.2 d hd).1⟩⟩,⟨by omega,fun s hs=>by have:=he s hs; omega⟩,⟨by omega,fun s hs=>⟨by have:=he s hs; omega,by have:=he s hs; omega⟩⟩⟩
theorem Jn {l:List Signed} {i:Nat} {x:Signed} (h:l[i]? = some x):(l.map Signed.enc).set i x.enc=l.map Signed.enc:=by
 apply List.ext_getElem?;intro j;rw [List.getElem?_set];split
 ·rename_i e;subst e;have ai:=aT h;rw [if_pos (by simpa using ai),List.getElem?_map,h];rfl
 ·rfl
theorem Rb (z:aR) (hf:z.jW):aq E 62 [z.enc] (· = z.enc):=by
 obtain ⟨aj,l⟩:=z;obtain ⟨hl,he⟩:=hf;simp only at hl he;have cH:∀ e∈l.map Signed.enc,e.cells.length=5:=fun e h=>by
  obtain ⟨x,_,rfl⟩:=List.mem_map.1 h;rfl
 show aq E _ [DV.agg [.str aj,.sl (l.map Signed.enc)]] _;by_cases h:l=[]
 ·subst h;show aq E _ [DV.agg [.str aj,.sl []]] _;refine eP Tryz.func62 ?_
  with_reducible refine ao (Q9 [] (by simp) (by simp)) ?_
  refine gO Tryz.func62 ?_;refine I.l4 ?_;refine I.run af Tryz.func62 2000 ?_;(conv=>whnf);refine aW (by simp) ?_;refine gO Tryz.func62 ?_;rfl
 ·refine eP Tryz.func62 ?_;refine wm (Ra (l.map Signed.enc) (by simpa using h) (by simpa using hl) cH) rfl ?_;refine gO Tryz.func62 ?_;refine I.loop (κ:=Nat) ([3]++rg 11 30) (fun k=>[(11,.d (.int .i64 k))]) (fun k=>[(2,.arr 1 (102,5) (l.map Signed.enc))]) (fun k=>k≤l.length) (fun k=>l.length - k) 0 (Nat.zero_le _) ?_ ?_
  ·exact sZ
  intro k hk IH;refine I.head af Tryz.func62 2000 ?_;(conv=>whnf);refine ah (fun h5=>?_) (fun h5=>?_)
  ·have ai:k<l.length:=by simpa using h5
   obtain ⟨x,hx⟩:=aD ai;obtain ⟨q1,q2⟩:=he x (List.mem_of_getElem? hx);have Rc:(l.map Signed.enc).set (k:Int).toNat (DV.agg [.str x.set.name,.int .i64 x.set.type,.int .i64 x.set.cD,.sl (x.set.data.map Datum.enc),rS x.sigs])=l.map Signed.enc:=Jn hx;have Re:(l.map Signed.enc).set (k:Int).toNat (DV.agg [.str x.set.name,.int .i64 x.set.type,.int .i64 x.set.cD,p0 x.set.data,.sl (x.sigs.map da.enc)])=l.map Signed.enc:=Jn hx;refine gO Tryz.func62 ?_;refine I.bH af bI 2000 (by kernel_rfl) ?_;(conv=>whnf);have hb:0≤(k:Int)∧(k:Int)<((l.map Signed.enc).length:Int):=⟨by omega,by simp; omega⟩;refine bc hb ?_;refine gD ?_;refine aB (e:=x.enc) (aN hx) rfl ?_;refine gD ?_;refine au (z8 (x.set.data.map Datum.enc) (by simpa using q1) (fun e h=>by obtain ⟨d,_,rfl⟩:=List.mem_map.1 h; simp [DV.cells])) ?_;refine gD ?_;refine bc hb ?_;refine gD ?_;refine aB (e:=x.enc) (aN hx) rfl ?_;refine gD ?_;refine And.intro (by kernel_rfl) ?_;(conv=>whnf);rw [Rc];refine gO Tryz.func62 ?_;refine I.bH af bI 2000 (by kernel_rfl) ?_;(conv=>whnf);refine bc hb ?_;refine gD ?_;refine aB (e:=x.enc) (aN hx) rfl ?_;refine gD ?_;refine au (Jl (x.sigs.map da.enc) (by simpa using q2) (fun e h=>by obtain ⟨d,_,rfl⟩:=List.mem_map.1 h; simp [DV.cells])) ?_;refine gD ?_;refine bc hb ?_;refine gD ?_;refine aB (e:=x.enc) (aN hx) rfl ?_;refine gD ?_;refine And.intro (by kernel_rfl) ?_;(conv=>whnf);rw [Re];refine gO Tryz.func62 ?_;refine I.back (IH (k+1) (by omega) (by omega)) ?_;exact sZ
  ·refine gO Tryz.func62 ?_
   with_reducible rfl
end Go.Proofs.YtfmdaiojokniiaaGreatDoor.P
end
section
namespace Go.Proofs.YtfmdaiojokniiaaGreatDoor.P
open Go Go.ax
set_option maxRecDepth 100000
set_option maxHeartbeats 4000000
theorem TX {α:Type} {l:List α} {k:Nat} (h:k<l.length):∃ x,l[k]? = some x:=⟨l[k],by simp⟩
def Kr (z:aR):Int:=match z.ab[(aU z.ab ⟨z.aj,4⟩).toNat]? with
 |some s=>(match s.set.data[0]? with | some d=>d.n | none=>0)
 |none=>0
theorem Ks {i j:Nat} (h:i+j≤4294967296):IntKind.i64.wrap (oy .shr .u64 (IntKind.u64.wrap (IntKind.i64.wrap ((i:Int)+j))) (Int.toNat 1))=(((i+j) / 2:Nat):Int):=ID h
theorem TY {z:aR} (h:dI z=true):∃ (k:Nat) (s:Signed) (d:Datum),aU z.ab ⟨z.aj,4⟩=k∧z.ab[k]? = some s∧cE ⟨z.aj,4⟩ s=true∧s.set.data[0]? = some d∧Kr z=d.n:=by
 have h0:=h;simp only [dI,Bool.and_eq_true] at h;obtain ⟨h1,h2,h3,h4,h5⟩:=h;simp only [oZ,Bool.and_eq_true,Bool.not_eq_true',decide_eq_false_iff_not] at h2;have h6:=h2.1.1;cases hf:z.ab.findIdx? (cE ⟨z.aj,4⟩) with
 |none=>simp [aU,hf] at h6
 |some k =>
  obtain ⟨hk,hq,_⟩:=List.findIdx?_eq_some_iff_getElem.1 hf;have hs:z.ab[k]? = some z.ab[k]:=List.getElem?_eq_getElem hk;obtain ⟨q1,q2,q3⟩:=uy h1;have aM:=q2 z.ab[k] (List.getElem_mem hk);simp only [eC,Bool.and_eq_true] at aM;have hl:=zC aM.1;obtain ⟨d,hd⟩:=TX (l:=z.ab[k].set.data) (k:=0) (by omega);have e:aU z.ab ⟨z.aj,4⟩=k:=by simp [aU,hf]
  exact ⟨k,z.ab[k],d,e,hs,hq,hd,by simp [Kr,e,hs,hd]⟩
end Go.Proofs.YtfmdaiojokniiaaGreatDoor.P
end
section
namespace Go.ax
open Go Go.RowKit
section
variable {E:Env} {s:List AV} {h:List ae}
theorem T9 {t:Nat} {x:Operand} {n:Int} {kt et:TypeId} (hu:E.P.underlying t=some (.map kt et)) (hx:aZ E.G s x (.d (.int .i64 n))):bC E (.makeMap t (some x)) s h (.map h.length) (h++[.map []]):=fun o c ac h1 h2 h3 h4=>by
 subst h2;have hv:=hx c ac h3 h4;obtain ⟨k1,k2⟩:=h3.add (.map []) 0 (.map #[] 0);have bA:(c.add (.map []) 0 (.map #[] 0)).own c.heap.length=some (c.w.heap.size,0):=by simp [Cx.add]
 have kR:(c.add (.map []) 0 (.map #[] 0)).heap[c.heap.length]? = some (.map []):=by simp [Cx.add]
 refine ⟨_,.map (some c.w.heap.size),.inl ?_,rfl,k2 ⟨c.w.heap.size,0,#[],0,bA,heap_alloc_new _ _,⟨rfl,by simp,by simp,by simp,rfl⟩,fun j k x m hj=>by simp at hj⟩,.map c.heap.length [] c.w.heap.size 0 kR bA,k1⟩;generalize y4:ac.eval x=u at hv;cases hv with
 |d _ _ hv =>
  cases hv;simp only [execOp,h1,Option.map_some,y4,Instr.makeMap,Sem.run_bind,Sem.run_pure,run_underlying hu,Result.andThen_ok];rfl
end
section
variable {E:Env} {ag:FuncId} {R:cx} {ops:Array Oper} {k:List aP} {F:List Nat} {n:Nat} {B:List Nat} {X:List ae} {lits:List Nat} {j:Nat} {o:Oper} {l:List Oper} {s:List AV} {h:List ae}
end
end Go.ax
end
