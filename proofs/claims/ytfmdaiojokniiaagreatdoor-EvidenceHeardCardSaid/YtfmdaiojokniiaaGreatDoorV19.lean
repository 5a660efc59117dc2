/- Several texts of mine, one behind the other. Conditions: as each says. -/
import Derived.Test.YtfmdaiojokniiaaGreatDoorV17
import Derived.Test.YtfmdaiojokniiaaGreatDoorV18
set_option linter.unusedVariables false
set_option linter.unusedSimpArgs false
section
namespace Go.Proofs.YtfmdaiojokniiaaGreatDoor.P
open Go Go.aw
set_option maxRecDepth 100000
set_option maxHeartbeats 4000000
theorem RP (l:List DV) (hl:l.length≤2147483648) (hc:∀ e∈l,e.cells.length=5):aq E 61 [.sl l] (· = .sl l):=by
 by_cases h:l=[]
 ·subst h;refine aq.norm ?_;refine eP Tryz.func61 ?_;refine I.kI af rfl rfl rfl rfl (aP rfl) (fun b hb=>?_);cases b
  ·refine gO Tryz.func61 ?_;refine aQ ?_;refine gO Tryz.func61 ?_;refine a8 ⟨by decide,fun e he=>by cases he⟩ ?_;refine gO Tryz.func61 ?_;rfl
  ·refine gO Tryz.func61 ?_;refine aV ?_;refine gO Tryz.func61 ?_;rfl
 ·refine eP Tryz.func61 ?_;refine I.kI af rfl rfl rfl rfl (aP rfl) (fun b hb=>?_);obtain rfl:b=false:=by
   cases b
   ·rfl
   ·exact absurd (hb rfl) h
  refine gO Tryz.func61 ?_;refine aQ ?_;refine gO Tryz.func61 ?_;refine a8 ⟨by simp; omega,hc⟩ ?_;refine gO Tryz.func61 ?_;rfl
theorem RQ (l:List DV) (h:l≠[]) (hl:l.length≤2147483648) (hc:∀ e∈l,e.cells.length=5):au E 61 [] [.d (.sl l)] (fun a b=>a = .own 0 1∧b=[.arr 1 (68,5) l]):=by
 refine au.run af (fn:=Tryz.f61) Tryz.func61 (body:=Tryz.f61.body.getD .skip) rfl (by decide) 2000 rfl ?_;(conv=>whnf);refine I.kI af rfl rfl rfl rfl (aP rfl) (fun b hb=>?_);obtain rfl:b=false:=by
  cases b
  ·rfl
  ·exact absurd (hb rfl) h
 refine gO Tryz.func61 ?_;refine aQ ?_;refine gO Tryz.func61 ?_;refine a8 ⟨by simp; omega,hc⟩ ?_;refine gO Tryz.func61 ?_;exact ⟨rfl,rfl⟩
theorem Ef (l:List DV) (hl:l.length≤2147483648) (hc:∀ e∈l,e.cells.length=3):aq E 63 [.sl l] (· = .sl l):=by
 by_cases h:l=[]
 ·subst h;refine aq.norm ?_;refine eP Tryz.func63 ?_;refine I.kI af rfl rfl rfl rfl (aP rfl) (fun b hb=>?_);cases b
  ·refine gO Tryz.func63 ?_;refine aQ ?_;refine gO Tryz.func63 ?_;refine a8 ⟨by decide,fun e he=>by cases he⟩ ?_;refine gO Tryz.func63 ?_;rfl
  ·refine gO Tryz.func63 ?_;refine aV ?_;refine gO Tryz.func63 ?_;rfl
 ·refine eP Tryz.func63 ?_;refine I.kI af rfl rfl rfl rfl (aP rfl) (fun b hb=>?_);obtain rfl:b=false:=by
   cases b
   ·rfl
   ·exact absurd (hb rfl) h
  refine gO Tryz.func63 ?_;refine aQ ?_;refine gO Tryz.func63 ?_;refine a8 ⟨by simp; omega,hc⟩ ?_;refine gO Tryz.func63 ?_;rfl
theorem vb (l:List DV) (hl:l.length≤2147483648) (hc:∀ e∈l,e.cells.length=3):aq E 64 [.sl l] (· = .sl l):=by
 by_cases h:l=[]
 ·subst h;refine aq.norm ?_;refine eP Tryz.func64 ?_;refine I.kI af rfl rfl rfl rfl (aP rfl) (fun b hb=>?_);cases b
  ·refine gO Tryz.func64 ?_;refine aQ ?_;refine gO Tryz.func64 ?_;refine a8 ⟨by decide,fun e he=>by cases he⟩ ?_;refine gO Tryz.func64 ?_;rfl
  ·refine gO Tryz.func64 ?_;refine aV ?_;refine gO Tryz.func64 ?_;rfl
 ·refine eP Tryz.func64 ?_;refine I.kI af rfl rfl rfl rfl (aP rfl) (fun b hb=>?_);obtain rfl:b=false:=by
   cases b
   ·rfl
   ·exact absurd (hb rfl) h
  refine gO Tryz.func64 ?_;refine aQ ?_;refine gO Tryz.func64 ?_;refine a8 ⟨by simp; omega,hc⟩ ?_;refine gO Tryz.func64 ?_;rfl
theorem Eg (l:List DV) (hl:l.length≤2147483648) (hc:∀ e∈l,e.cells.length=1):aq E 65 [.sl l] (· = .sl l):=by
 by_cases h:l=[]
 ·subst h;refine aq.norm ?_;refine eP Tryz.func65 ?_;refine I.kI af rfl rfl rfl rfl (aP rfl) (fun b hb=>?_);cases b
  ·refine gO Tryz.func65 ?_;refine aQ ?_;refine gO Tryz.func65 ?_;refine a8 ⟨by decide,fun e he=>by cases he⟩ ?_;refine gO Tryz.func65 ?_;rfl
  ·refine gO Tryz.func65 ?_;refine aV ?_;refine gO Tryz.func65 ?_;rfl
 ·refine eP Tryz.func65 ?_;refine I.kI af rfl rfl rfl rfl (aP rfl) (fun b hb=>?_);obtain rfl:b=false:=by
   cases b
   ·rfl
   ·exact absurd (hb rfl) h
  refine gO Tryz.func65 ?_;refine aQ ?_;refine gO Tryz.func65 ?_;refine a8 ⟨by simp; omega,hc⟩ ?_;refine gO Tryz.func65 ?_;rfl
theorem RR (l:List DV) (hl:l.length≤2147483648) (hc:∀ e∈l,e.cells.length=5):aq E 134 [.sl l] (· = .sl l):=by
 by_cases h:l=[]
 ·subst h;refine aq.norm ?_;refine eP Tryz.func134 ?_;refine I.kI af rfl rfl rfl rfl (aP rfl) (fun b hb=>?_);cases b
  ·refine gO Tryz.func134 ?_;refine aQ ?_;refine gO Tryz.func134 ?_;refine a8 ⟨by decide,fun e he=>by cases he⟩ ?_;refine gO Tryz.func134 ?_;rfl
  ·refine gO Tryz.func134 ?_;refine aV ?_;refine gO Tryz.func134 ?_;rfl
 ·refine eP Tryz.func134 ?_;refine I.kI af rfl rfl rfl rfl (aP rfl) (fun b hb=>?_);obtain rfl:b=false:=by
   cases b
   ·rfl
   ·exact absurd (hb rfl) h
  refine gO Tryz.func134 ?_;refine aQ ?_;refine gO Tryz.func134 ?_;refine a8 ⟨by simp; omega,hc⟩ ?_;refine gO Tryz.func134 ?_;rfl
theorem RS (l:List DV) (h:l≠[]) (hl:l.length≤2147483648) (hc:∀ e∈l,e.cells.length=5):au E 134 [] [.d (.sl l)] (fun a b=>a = .own 0 1∧b=[.arr 1 (102,5) l]):=by
 refine au.run af (fn:=Tryz.f134) Tryz.func134 (body:=Tryz.f134.body.getD .skip) rfl (by decide) 2000 rfl ?_;(conv=>whnf);refine I.kI af rfl rfl rfl rfl (aP rfl) (fun b hb=>?_);obtain rfl:b=false:=by
  cases b
  ·rfl
  ·exact absurd (hb rfl) h
 refine gO Tryz.func134 ?_;refine aQ ?_;refine gO Tryz.func134 ?_;refine a8 ⟨by simp; omega,hc⟩ ?_;refine gO Tryz.func134 ?_;exact ⟨rfl,rfl⟩
theorem Eh (l:List DV) (hl:l.length≤2147483648) (hc:∀ e∈l,e.cells.length=6):aq E 135 [.sl l] (· = .sl l):=by
 by_cases h:l=[]
 ·subst h;refine aq.norm ?_;refine eP Tryz.func135 ?_;refine I.kI af rfl rfl rfl rfl (aP rfl) (fun b hb=>?_);cases b
  ·refine gO Tryz.func135 ?_;refine aQ ?_;refine gO Tryz.func135 ?_;refine a8 ⟨by decide,fun e he=>by cases he⟩ ?_;refine gO Tryz.func135 ?_;rfl
  ·refine gO Tryz.func135 ?_;refine aV ?_;refine gO Tryz.func135 ?_;rfl
 ·refine eP Tryz.func135 ?_;refine I.kI af rfl rfl rfl rfl (aP rfl) (fun b hb=>?_);obtain rfl:b=false:=by
   cases b
   ·rfl
   ·exact absurd (hb rfl) h
  refine gO Tryz.func135 ?_;refine aQ ?_;refine gO Tryz.func135 ?_;refine a8 ⟨by simp; omega,hc⟩ ?_;refine gO Tryz.func135 ?_;rfl
end Go.Proofs.YtfmdaiojokniiaaGreatDoor.P
end
section
namespace Go.Proofs.YtfmdaiojokniiaaGreatDoor.P
open Go Go.aw
set_option maxRecDepth 100000
set_option maxHeartbeats 4000000
structure aG.jG (z:aG):Prop where
 ab:z.ab.length≤2147483648
 each:∀ s∈z.ab,s.set.data.length≤2147483648∧s.sigs.length≤2147483648
theorem Ei {z:aG} (h:dE z=true):z.jG:=by
 simp only [dE,Bool.and_eq_true] at h;obtain ⟨h1,h2,h3,h4,h5⟩:=h;obtain ⟨q1,q2,q3⟩:=uT h1;refine ⟨by omega,fun s hs=>⟨?_,?_⟩⟩
 ·have:=q2 s hs;simp only [eB,Bool.and_eq_true] at this;have:=xz this.1;omega
 ·obtain ⟨i,hi⟩:=List.getElem?_of_mem hs;have aj:=aR hi;obtain ⟨o,ho⟩:=aL (l:=pA z) (k:=i) (by rw [DS]; exact aj);have hm:(s,o)∈z.ab.zip (pA z):=List.mem_of_getElem? (i:=i) (by rw [List.getElem?_zip_eq_some]; exact ⟨hi,ho⟩);have h6:=List.all_eq_true.1 h5 _ hm;simp only [sO,mI,Bool.and_eq_true,decide_eq_true_eq] at h6;omega
theorem RT {z:aG} (hg:z.Good) (h:uP z=true):z.Fits∧z.jG∧z.kb:=by
 simp only [uP,Bool.and_eq_true,decide_eq_true_eq] at h;obtain ⟨h1,h2⟩:=h;rw [List.take_of_length_le (by omega)] at h1;have he:∀ s∈z.ab,s.set.data.length≤20∧s.sigs.length≤20:=fun s hs=>by
  have:=List.all_eq_true.1 h1 s hs;simp [uO] at this;omega
 refine ⟨⟨hg.1,fun s hs=>⟨((hg.2.2 s hs).1).1,by have:=he s hs; omega,fun d hd=>(((hg.2.2 s hs).1).2.2.2.2 d hd).1⟩⟩,⟨by omega,fun s hs=>by have:=he s hs; omega⟩,⟨by omega,fun s hs=>⟨by have:=he s hs; omega,by have:=he s hs; omega⟩⟩⟩
theorem JR {l:List Signed} {i:Nat} {x:Signed} (h:l[i]? = some x):(l.map Signed.enc).set i x.enc=l.map Signed.enc:=by
 apply List.ext_getElem?;intro j;rw [List.getElem?_set];split
 ·rename_i e;subst e;have aj:=aR h;rw [if_pos (by simpa using aj),List.getElem?_map,h];rfl
 ·rfl
theorem RU (z:aG) (hf:z.jG):aq E 62 [z.enc] (· = z.enc):=by
 obtain ⟨ah,l⟩:=z;obtain ⟨hl,he⟩:=hf;simp only at hl he;have dm:∀ e∈l.map Signed.enc,e.cells.length=5:=fun e h=>by
  obtain ⟨x,_,rfl⟩:=List.mem_map.1 h;rfl
 show aq E _ [DV.agg [.str ah,.sl (l.map Signed.enc)]] _;by_cases h:l=[]
 ·subst h;show aq E _ [DV.agg [.str ah,.sl []]] _;refine eP Tryz.func62 ?_
  with_reducible refine ao (RR [] (by simp) (by simp)) ?_
  refine gO Tryz.func62 ?_;refine I.mw ?_;refine I.run af Tryz.func62 2000 ?_;(conv=>whnf);refine aZ (by simp) ?_;refine gO Tryz.func62 ?_;rfl
 ·refine eP Tryz.func62 ?_;refine wM (RS (l.map Signed.enc) (by simpa using h) (by simpa using hl) dm) rfl ?_;refine gO Tryz.func62 ?_;refine I.loop (κ:=Nat) ([3]++rg 11 30) (fun k=>[(11,.d (.int .i64 k))]) (fun k=>[(2,.arr 1 (102,5) (l.map Signed.enc))]) (fun k=>k≤l.length) (fun k=>l.length - k) 0 (Nat.zero_le _) ?_ ?_
  ·exact sZ
  intro k hk IH;refine I.head af Tryz.func62 2000 ?_;(conv=>whnf);refine ai (fun h5=>?_) (fun h5=>?_)
  ·have aj:k<l.length:=by simpa using h5
   obtain ⟨x,hx⟩:=aL aj;obtain ⟨q1,q2⟩:=he x (List.mem_of_getElem? hx);have RV:(l.map Signed.enc).set (k:Int).toNat (DV.agg [.str x.set.name,.int .i64 x.set.type,.int .i64 x.set.cD,.sl (x.set.data.map Datum.enc),uE x.sigs])=l.map Signed.enc:=JR hx;have RW:(l.map Signed.enc).set (k:Int).toNat (DV.agg [.str x.set.name,.int .i64 x.set.type,.int .i64 x.set.cD,sx x.set.data,.sl (x.sigs.map cX.enc)])=l.map Signed.enc:=JR hx;refine gO Tryz.func62 ?_;refine I.bH af bI 2000 (by kernel_rfl) ?_;(conv=>whnf);have hb:0≤(k:Int)∧(k:Int)<((l.map Signed.enc).length:Int):=⟨by omega,by simp; omega⟩;refine a8 hb ?_;refine gD ?_;refine aE (e:=x.enc) (aX hx) rfl ?_;refine gD ?_;refine ay (vb (x.set.data.map Datum.enc) (by simpa using q1) (fun e h=>by obtain ⟨d,_,rfl⟩:=List.mem_map.1 h; simp [DV.cells])) ?_;refine gD ?_;refine a8 hb ?_;refine gD ?_;refine aE (e:=x.enc) (aX hx) rfl ?_;refine gD ?_;refine And.intro (by kernel_rfl) ?_;(conv=>whnf);rw [RV];refine gO Tryz.func62 ?_;refine I.bH af bI 2000 (by kernel_rfl) ?_;(conv=>whnf);refine a8 hb ?_;refine gD ?_;refine aE (e:=x.enc) (aX hx) rfl ?_;refine gD ?_;refine ay (Eh (x.sigs.map cX.enc) (by simpa using q2) (fun e h=>by obtain ⟨d,_,rfl⟩:=List.mem_map.1 h; simp [DV.cells])) ?_;refine gD ?_;refine a8 hb ?_;refine gD ?_;refine aE (e:=x.enc) (aX hx) rfl ?_;refine gD ?_;refine And.intro (by kernel_rfl) ?_;(conv=>whnf);rw [RW];refine gO Tryz.func62 ?_;refine I.back (IH (k+1) (by omega) (by omega)) ?_;exact sZ
  ·refine gO Tryz.func62 ?_
   with_reducible rfl
end Go.Proofs.YtfmdaiojokniiaaGreatDoor.P
end
section
namespace Go.Proofs.YtfmdaiojokniiaaGreatDoor.P
open Go Go.aw
set_option maxRecDepth 100000
set_option maxHeartbeats 4000000
theorem Uf {α:Type} {l:List α} {k:Nat} (h:k<l.length):∃ x,l[k]? = some x:=⟨l[k],by simp⟩
def KN (z:aG):Int:=match z.ab[(aU z.ab ⟨z.ah,4⟩).toNat]? with
 |some s=>(match s.set.data[0]? with | some d=>d.n | none=>0)
 |none=>0
theorem KO {i j:Nat} (h:i+j≤4294967296):IntKind.i64.wrap (oW .shr .u64 (IntKind.u64.wrap (IntKind.i64.wrap ((i:Int)+j))) (Int.toNat 1))=(((i+j) / 2:Nat):Int):=Je h
theorem Ug {z:aG} (h:dE z=true):∃ (k:Nat) (s:Signed) (d:Datum),aU z.ab ⟨z.ah,4⟩=k∧z.ab[k]? = some s∧cE ⟨z.ah,4⟩ s=true∧s.set.data[0]? = some d∧KN z=d.n:=by
 have h0:=h;simp only [dE,Bool.and_eq_true] at h;obtain ⟨h1,h2,h3,h4,h5⟩:=h;simp only [qN,Bool.and_eq_true,Bool.not_eq_true',decide_eq_false_iff_not] at h2;have h6:=h2.1.1;cases hf:z.ab.findIdx? (cE ⟨z.ah,4⟩) with
 |none=>simp [aU,hf] at h6
 |some k =>
  obtain ⟨hk,hq,_⟩:=List.findIdx?_eq_some_iff_getElem.1 hf;have hs:z.ab[k]? = some z.ab[k]:=List.getElem?_eq_getElem hk;obtain ⟨q1,q2,q3⟩:=uT h1;have aO:=q2 z.ab[k] (List.getElem_mem hk);simp only [eB,Bool.and_eq_true] at aO;have hl:=xz aO.1;obtain ⟨d,hd⟩:=Uf (l:=z.ab[k].set.data) (k:=0) (by omega);have e:aU z.ab ⟨z.ah,4⟩=k:=by simp [aU,hf]
  exact ⟨k,z.ab[k],d,e,hs,hq,hd,by simp [KN,e,hs,hd]⟩
end Go.Proofs.YtfmdaiojokniiaaGreatDoor.P
end
