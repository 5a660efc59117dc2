/- Several texts of mine, one behind the other. Conditions: as each says. -/
import Derived.Test.YtfmdaiojokniiaaGreatDoorW16
import Derived.Test.YtfmdaiojokniiaaGreatDoorW17
set_option linter.unusedVariables false
set_option linter.unusedSimpArgs false
section
namespace Go.Proofs.YtfmdaiojokniiaaGreatDoor.P
open Go Go.aw
set_option maxRecDepth 100000
set_option maxHeartbeats 4000000
theorem Qm (l:List DV) (hl:l.length≤2147483648) (hc:∀ e∈l,e.cells.length=5):au E 61 [.sl l] (· = .sl l):=by
 by_cases h:l=[]
 ·subst h;refine au.norm ?_;refine eP Tryz.func61 ?_;refine I.jZ ag rfl rfl rfl rfl (aM rfl) (fun b hb=>?_);cases b
  ·refine gO Tryz.func61 ?_;refine aN ?_;refine gO Tryz.func61 ?_;refine bp ⟨by decide,fun e he=>by cases he⟩ ?_;refine gO Tryz.func61 ?_;rfl
  ·refine gO Tryz.func61 ?_;refine aY ?_;refine gO Tryz.func61 ?_;rfl
 ·refine eP Tryz.func61 ?_;refine I.jZ ag rfl rfl rfl rfl (aM rfl) (fun b hb=>?_);obtain rfl:b=false:=by
   cases b
   ·rfl
   ·exact absurd (hb rfl) h
  refine gO Tryz.func61 ?_;refine aN ?_;refine gO Tryz.func61 ?_;refine bp ⟨by simp; omega,hc⟩ ?_;refine gO Tryz.func61 ?_;rfl
theorem Qn (l:List DV) (h:l≠[]) (hl:l.length≤2147483648) (hc:∀ e∈l,e.cells.length=5):aq E 61 [] [.d (.sl l)] (fun a b=>a = .own 0 1∧b=[.arr 1 (68,5) l]):=by
 refine aq.run ag (fn:=Tryz.f61) Tryz.func61 (body:=Tryz.f61.body.getD .skip) rfl (by decide) 2000 rfl ?_;(conv=>whnf);refine I.jZ ag rfl rfl rfl rfl (aM rfl) (fun b hb=>?_);obtain rfl:b=false:=by
  cases b
  ·rfl
  ·exact absurd (hb rfl) h
 refine gO Tryz.func61 ?_;refine aN ?_;refine gO Tryz.func61 ?_;refine bp ⟨by simp; omega,hc⟩ ?_;refine gO Tryz.func61 ?_;exact ⟨rfl,rfl⟩
theorem Iz (l:List DV) (hl:l.length≤2147483648) (hc:∀ e∈l,e.cells.length=3):au E 63 [.sl l] (· = .sl l):=by
 by_cases h:l=[]
 ·subst h;refine au.norm ?_;refine eP Tryz.func63 ?_;refine I.jZ ag rfl rfl rfl rfl (aM rfl) (fun b hb=>?_);cases b
  ·refine gO Tryz.func63 ?_;refine aN ?_;refine gO Tryz.func63 ?_;refine bp ⟨by decide,fun e he=>by cases he⟩ ?_;refine gO Tryz.func63 ?_;rfl
  ·refine gO Tryz.func63 ?_;refine aY ?_;refine gO Tryz.func63 ?_;rfl
 ·refine eP Tryz.func63 ?_;refine I.jZ ag rfl rfl rfl rfl (aM rfl) (fun b hb=>?_);obtain rfl:b=false:=by
   cases b
   ·rfl
   ·exact absurd (hb rfl) h
  refine gO Tryz.func63 ?_;refine aN ?_;refine gO Tryz.func63 ?_;refine bp ⟨by simp; omega,hc⟩ ?_;refine gO Tryz.func63 ?_;rfl
theorem zx (l:List DV) (hl:l.length≤2147483648) (hc:∀ e∈l,e.cells.length=3):au E 64 [.sl l] (· = .sl l):=by
 by_cases h:l=[]
 ·subst h;refine au.norm ?_;refine eP Tryz.func64 ?_;refine I.jZ ag rfl rfl rfl rfl (aM rfl) (fun b hb=>?_);cases b
  ·refine gO Tryz.func64 ?_;refine aN ?_;refine gO Tryz.func64 ?_;refine bp ⟨by decide,fun e he=>by cases he⟩ ?_;refine gO Tryz.func64 ?_;rfl
  ·refine gO Tryz.func64 ?_;refine aY ?_;refine gO Tryz.func64 ?_;rfl
 ·refine eP Tryz.func64 ?_;refine I.jZ ag rfl rfl rfl rfl (aM rfl) (fun b hb=>?_);obtain rfl:b=false:=by
   cases b
   ·rfl
   ·exact absurd (hb rfl) h
  refine gO Tryz.func64 ?_;refine aN ?_;refine gO Tryz.func64 ?_;refine bp ⟨by simp; omega,hc⟩ ?_;refine gO Tryz.func64 ?_;rfl
theorem IA (l:List DV) (hl:l.length≤2147483648) (hc:∀ e∈l,e.cells.length=1):au E 65 [.sl l] (· = .sl l):=by
 by_cases h:l=[]
 ·subst h;refine au.norm ?_;refine eP Tryz.func65 ?_;refine I.jZ ag rfl rfl rfl rfl (aM rfl) (fun b hb=>?_);cases b
  ·refine gO Tryz.func65 ?_;refine aN ?_;refine gO Tryz.func65 ?_;refine bp ⟨by decide,fun e he=>by cases he⟩ ?_;refine gO Tryz.func65 ?_;rfl
  ·refine gO Tryz.func65 ?_;refine aY ?_;refine gO Tryz.func65 ?_;rfl
 ·refine eP Tryz.func65 ?_;refine I.jZ ag rfl rfl rfl rfl (aM rfl) (fun b hb=>?_);obtain rfl:b=false:=by
   cases b
   ·rfl
   ·exact absurd (hb rfl) h
  refine gO Tryz.func65 ?_;refine aN ?_;refine gO Tryz.func65 ?_;refine bp ⟨by simp; omega,hc⟩ ?_;refine gO Tryz.func65 ?_;rfl
theorem Qo (l:List DV) (hl:l.length≤2147483648) (hc:∀ e∈l,e.cells.length=5):au E 134 [.sl l] (· = .sl l):=by
 by_cases h:l=[]
 ·subst h;refine au.norm ?_;refine eP Tryz.func134 ?_;refine I.jZ ag rfl rfl rfl rfl (aM rfl) (fun b hb=>?_);cases b
  ·refine gO Tryz.func134 ?_;refine aN ?_;refine gO Tryz.func134 ?_;refine bp ⟨by decide,fun e he=>by cases he⟩ ?_;refine gO Tryz.func134 ?_;rfl
  ·refine gO Tryz.func134 ?_;refine aY ?_;refine gO Tryz.func134 ?_;rfl
 ·refine eP Tryz.func134 ?_;refine I.jZ ag rfl rfl rfl rfl (aM rfl) (fun b hb=>?_);obtain rfl:b=false:=by
   cases b
   ·rfl
   ·exact absurd (hb rfl) h
  refine gO Tryz.func134 ?_;refine aN ?_;refine gO Tryz.func134 ?_;refine bp ⟨by simp; omega,hc⟩ ?_;refine gO Tryz.func134 ?_;rfl
theorem Qp (l:List DV) (h:l≠[]) (hl:l.length≤2147483648) (hc:∀ e∈l,e.cells.length=5):aq E 134 [] [.d (.sl l)] (fun a b=>a = .own 0 1∧b=[.arr 1 (102,5) l]):=by
 refine aq.run ag (fn:=Tryz.f134) Tryz.func134 (body:=Tryz.f134.body.getD .skip) rfl (by decide) 2000 rfl ?_;(conv=>whnf);refine I.jZ ag rfl rfl rfl rfl (aM rfl) (fun b hb=>?_);obtain rfl:b=false:=by
  cases b
  ·rfl
  ·exact absurd (hb rfl) h
 refine gO Tryz.func134 ?_;refine aN ?_;refine gO Tryz.func134 ?_;refine bp ⟨by simp; omega,hc⟩ ?_;refine gO Tryz.func134 ?_;exact ⟨rfl,rfl⟩
theorem IB (l:List DV) (hl:l.length≤2147483648) (hc:∀ e∈l,e.cells.length=6):au E 135 [.sl l] (· = .sl l):=by
 by_cases h:l=[]
 ·subst h;refine au.norm ?_;refine eP Tryz.func135 ?_;refine I.jZ ag rfl rfl rfl rfl (aM rfl) (fun b hb=>?_);cases b
  ·refine gO Tryz.func135 ?_;refine aN ?_;refine gO Tryz.func135 ?_;refine bp ⟨by decide,fun e he=>by cases he⟩ ?_;refine gO Tryz.func135 ?_;rfl
  ·refine gO Tryz.func135 ?_;refine aY ?_;refine gO Tryz.func135 ?_;rfl
 ·refine eP Tryz.func135 ?_;refine I.jZ ag rfl rfl rfl rfl (aM rfl) (fun b hb=>?_);obtain rfl:b=false:=by
   cases b
   ·rfl
   ·exact absurd (hb rfl) h
  refine gO Tryz.func135 ?_;refine aN ?_;refine gO Tryz.func135 ?_;refine bp ⟨by simp; omega,hc⟩ ?_;refine gO Tryz.func135 ?_;rfl
end Go.Proofs.YtfmdaiojokniiaaGreatDoor.P
end
section
namespace Go.Proofs.YtfmdaiojokniiaaGreatDoor.P
open Go Go.aw
set_option maxRecDepth 100000
set_option maxHeartbeats 4000000
structure aF.jA (z:aF):Prop where
 ae:z.ae.length≤2147483648
 each:∀ s∈z.ae,s.set.data.length≤2147483648∧s.sigs.length≤2147483648
theorem IC {z:aF} (h:ep z=true):z.jA:=by
 simp only [ep,Bool.and_eq_true] at h;obtain ⟨h1,h2,h3,h4,h5⟩:=h;obtain ⟨q1,q2,q3⟩:=wM h1;refine ⟨by omega,fun s hs=>⟨?_,?_⟩⟩
 ·have:=q2 s hs;simp only [jy,Bool.and_eq_true] at this;have:=y0 this.1;omega
 ·obtain ⟨i,hi⟩:=List.getElem?_of_mem hs;have ah:=aP hi;obtain ⟨o,ho⟩:=aU (l:=wK z) (k:=i) (by rw [O3]; exact ah);have hm:(s,o)∈z.ae.zip (wK z):=List.mem_of_getElem? (i:=i) (by rw [List.getElem?_zip_eq_some]; exact ⟨hi,ho⟩);have h6:=List.all_eq_true.1 h5 _ hm;simp only [zc,nx,Bool.and_eq_true,decide_eq_true_eq] at h6;omega
theorem Qq {z:aF} (hg:z.Good) (h:tR z=true):z.Fits∧z.jA∧z.kb:=by
 simp only [tR,Bool.and_eq_true,decide_eq_true_eq] at h;obtain ⟨h1,h2⟩:=h;rw [List.take_of_length_le (by omega)] at h1;have he:∀ s∈z.ae,s.set.data.length≤20∧s.sigs.length≤20:=fun s hs=>by
  have:=List.all_eq_true.1 h1 s hs;simp [tQ] at this;omega
 refine ⟨⟨hg.1,fun s hs=>⟨((hg.2.2 s hs).1).1,by have:=he s hs; omega,fun d hd=>(((hg.2.2 s hs).1).2.2.2.2 d hd).1⟩⟩,⟨by omega,fun s hs=>by have:=he s hs; omega⟩,⟨by omega,fun s hs=>⟨by have:=he s hs; omega,by have:=he s hs; omega⟩⟩⟩
theorem ID {l:List Signed} {i:Nat} {x:Signed} (h:l[i]? = some x):(l.map Signed.enc).set i x.enc=l.map Signed.enc:=by
 apply List.ext_getElem?;intro j;rw [List.getElem?_set];split
 ·rename_i e;subst e;have ah:=aP h;rw [if_pos (by simpa using ah),List.getElem?_map,h];rfl
 ·rfl
theorem Qr (z:aF) (hf:z.jA):au E 62 [z.enc] (· = z.enc):=by
 obtain ⟨ai,l⟩:=z;obtain ⟨hl,he⟩:=hf;simp only at hl he;have dS:∀ e∈l.map Signed.enc,e.cells.length=5:=fun e h=>by
  obtain ⟨x,_,rfl⟩:=List.mem_map.1 h;rfl
 show au E _ [DV.agg [.str ai,.sl (l.map Signed.enc)]] _;by_cases h:l=[]
 ·subst h;show au E _ [DV.agg [.str ai,.sl []]] _;refine eP Tryz.func62 ?_
  with_reducible refine ar (Qo [] (by simp) (by simp)) ?_
  refine gO Tryz.func62 ?_;refine I.jV ?_;refine I.run ag Tryz.func62 2000 ?_;(conv=>whnf);refine aW (by simp) ?_;refine gO Tryz.func62 ?_;rfl
 ·refine eP Tryz.func62 ?_;refine vH (Qp (l.map Signed.enc) (by simpa using h) (by simpa using hl) dS) rfl ?_;refine gO Tryz.func62 ?_;refine I.loop (κ:=Nat) ([3]++rg 11 30) (fun k=>[(11,.d (.int .i64 k))]) (fun k=>[(2,.arr 1 (102,5) (l.map Signed.enc))]) (fun k=>k≤l.length) (fun k=>l.length - k) 0 (Nat.zero_le _) ?_ ?_
  ·exact sZ
  intro k hk IH;refine I.head ag Tryz.func62 2000 ?_;(conv=>whnf);refine aj (fun h5=>?_) (fun h5=>?_)
  ·have ah:k<l.length:=by simpa using h5
   obtain ⟨x,hx⟩:=aU ah;obtain ⟨q1,q2⟩:=he x (List.mem_of_getElem? hx);have Qs:(l.map Signed.enc).set (k:Int).toNat (DV.agg [.str x.set.name,.int .i64 x.set.type,.int .i64 x.set.cV,.sl (x.set.data.map Datum.enc),yJ x.sigs])=l.map Signed.enc:=ID hx;have Qt:(l.map Signed.enc).set (k:Int).toNat (DV.agg [.str x.set.name,.int .i64 x.set.type,.int .i64 x.set.cV,tH x.set.data,.sl (x.sigs.map di.enc)])=l.map Signed.enc:=ID hx;refine gO Tryz.func62 ?_;refine I.bU ag bV 2000 (by kernel_rfl) ?_;(conv=>whnf);have hb:0≤(k:Int)∧(k:Int)<((l.map Signed.enc).length:Int):=⟨by omega,by simp; omega⟩;refine bp hb ?_;refine gD ?_;refine aT (e:=x.enc) (bu hx) rfl ?_;refine gD ?_;refine aR (zx (x.set.data.map Datum.enc) (by simpa using q1) (fun e h=>by obtain ⟨d,_,rfl⟩:=List.mem_map.1 h; simp [DV.cells])) ?_;refine gD ?_;refine bp hb ?_;refine gD ?_;refine aT (e:=x.enc) (bu hx) rfl ?_;refine gD ?_;refine And.intro (by kernel_rfl) ?_;(conv=>whnf);rw [Qs];refine gO Tryz.func62 ?_;refine I.bU ag bV 2000 (by kernel_rfl) ?_;(conv=>whnf);refine bp hb ?_;refine gD ?_;refine aT (e:=x.enc) (bu hx) rfl ?_;refine gD ?_;refine aR (IB (x.sigs.map di.enc) (by simpa using q2) (fun e h=>by obtain ⟨d,_,rfl⟩:=List.mem_map.1 h; simp [DV.cells])) ?_;refine gD ?_;refine bp hb ?_;refine gD ?_;refine aT (e:=x.enc) (bu hx) rfl ?_;refine gD ?_;refine And.intro (by kernel_rfl) ?_;(conv=>whnf);rw [Qt];refine gO Tryz.func62 ?_;refine I.back (IH (k+1) (by omega) (by omega)) ?_;exact sZ
  ·refine gO Tryz.func62 ?_
   with_reducible rfl
end Go.Proofs.YtfmdaiojokniiaaGreatDoor.P
end
section
namespace Go.Proofs.YtfmdaiojokniiaaGreatDoor.P
open Go Go.aw
set_option maxRecDepth 100000
set_option maxHeartbeats 4000000
theorem Sx {α:Type} {l:List α} {k:Nat} (h:k<l.length):∃ x,l[k]? = some x:=⟨l[k],by simp⟩
def Jy (z:aF):Int:=match z.ae[(aO z.ae ⟨z.ai,4⟩).toNat]? with
 |some s=>(match s.set.data[0]? with | some d=>d.n | none=>0)
 |none=>0
theorem Jz {i j:Nat} (h:i+j≤4294967296):IntKind.i64.wrap (oa .shr .u64 (IntKind.u64.wrap (IntKind.i64.wrap ((i:Int)+j))) (Int.toNat 1))=(((i+j) / 2:Nat):Int):=HP h
theorem Sy {z:aF} (h:ep z=true):∃ (k:Nat) (s:Signed) (d:Datum),aO z.ae ⟨z.ai,4⟩=k∧z.ae[k]? = some s∧cP ⟨z.ai,4⟩ s=true∧s.set.data[0]? = some d∧Jy z=d.n:=by
 have h0:=h;simp only [ep,Bool.and_eq_true] at h;obtain ⟨h1,h2,h3,h4,h5⟩:=h;simp only [wF,Bool.and_eq_true,Bool.not_eq_true',decide_eq_false_iff_not] at h2;have h6:=h2.1.1;cases hf:z.ae.findIdx? (cP ⟨z.ai,4⟩) with
 |none=>simp [aO,hf] at h6
 |some k =>
  obtain ⟨hk,hq,_⟩:=List.findIdx?_eq_some_iff_getElem.1 hf;have hs:z.ae[k]? = some z.ae[k]:=List.getElem?_eq_getElem hk;obtain ⟨q1,q2,q3⟩:=wM h1;have aJ:=q2 z.ae[k] (List.getElem_mem hk);simp only [jy,Bool.and_eq_true] at aJ;have hl:=y0 aJ.1;obtain ⟨d,hd⟩:=Sx (l:=z.ae[k].set.data) (k:=0) (by omega);have e:aO z.ae ⟨z.ai,4⟩=k:=by simp [aO,hf]
  exact ⟨k,z.ae[k],d,e,hs,hq,hd,by simp [Jy,e,hs,hd]⟩
end Go.Proofs.YtfmdaiojokniiaaGreatDoor.P
end
