/- Several texts of mine, one behind the other. Conditions: as each says. -/
import Derived.Test.YtcmnpelmmekdkaaGreatDoorY6
import Derived.Test.YtcmnpelmmekdkaaGreatDoorY11
import Derived.Test.YtcmnpelmmekdkaaGreatDoorY16
set_option linter.unusedVariables false
set_option linter.unusedSimpArgs false
section
section
namespace Go.Proofs.YtcmnpelmmekdkaaGreatDoor.P
open Go Go.ax
set_option maxRecDepth 100000
set_option maxHeartbeats 4000000
theorem Xk (l:List DV) (hl:l.length≤2147483648) (hc:∀ e∈l,e.cells.length=3):aA E 147 [.sl l] (· = .sl l):=by
 by_cases h:l=[]
 ·subst h;refine aA.norm ?_;refine eP Tryz.func147 ?_;refine aa.uX aj rfl rfl rfl rfl (bh rfl) (fun b hb=>?_);cases b
  ·refine gO Tryz.func147 ?_;refine ba ?_;refine gO Tryz.func147 ?_;refine bQ ⟨by decide,fun e he=>by cases he⟩ ?_;refine gO Tryz.func147 ?_;rfl
  ·refine gO Tryz.func147 ?_;refine bq ?_;refine gO Tryz.func147 ?_;rfl
 ·refine eP Tryz.func147 ?_;refine aa.uX aj rfl rfl rfl rfl (bh rfl) (fun b hb=>?_);obtain rfl:b=false:=by
   cases b
   ·rfl
   ·exact absurd (hb rfl) h
  refine gO Tryz.func147 ?_;refine ba ?_;refine gO Tryz.func147 ?_;refine bQ ⟨by simp; omega,hc⟩ ?_;refine gO Tryz.func147 ?_;rfl
theorem Xl (l:List DV) (hl:l.length≤2147483648) (hc:∀ e∈l,e.cells.length=6):aA E 148 [.sl l] (· = .sl l):=by
 by_cases h:l=[]
 ·subst h;refine aA.norm ?_;refine eP Tryz.func148 ?_;refine aa.uX aj rfl rfl rfl rfl (bh rfl) (fun b hb=>?_);cases b
  ·refine gO Tryz.func148 ?_;refine ba ?_;refine gO Tryz.func148 ?_;refine bQ ⟨by decide,fun e he=>by cases he⟩ ?_;refine gO Tryz.func148 ?_;rfl
  ·refine gO Tryz.func148 ?_;refine bq ?_;refine gO Tryz.func148 ?_;rfl
 ·refine eP Tryz.func148 ?_;refine aa.uX aj rfl rfl rfl rfl (bh rfl) (fun b hb=>?_);obtain rfl:b=false:=by
   cases b
   ·rfl
   ·exact absurd (hb rfl) h
  refine gO Tryz.func148 ?_;refine ba ?_;refine gO Tryz.func148 ?_;refine bQ ⟨by simp; omega,hc⟩ ?_;refine gO Tryz.func148 ?_;rfl
end Go.Proofs.YtcmnpelmmekdkaaGreatDoor.P
end
section
namespace Go.Proofs.YtcmnpelmmekdkaaGreatDoor.P
open Go Go.ax
set_option maxRecDepth 100000
set_option maxHeartbeats 4000000
structure aU.mc (z:aU):Prop where
 af:z.af.length≤2147483648
 each:∀ s∈z.af,s.set.data.length≤2147483648∧s.sigs.length≤2147483648
theorem On {z:aU} (h:eV z=true):z.mc:=by
 simp only [eV,Bool.and_eq_true] at h;obtain ⟨h1,h2,h3,h4,h5⟩:=h;obtain ⟨q1,q2,q3⟩:=uQ h1;refine ⟨by omega,fun s hs=>⟨?_,?_⟩⟩
 ·have:=q2 s hs;simp only [fo,Bool.and_eq_true] at this;have:=wZ this.1;omega
 ·obtain ⟨i,hi⟩:=List.getElem?_of_mem hs;have ai:=aZ hi;obtain ⟨o,ho⟩:=aY (l:=rk z) (k:=i) (by rw [GW]; exact ai);have hm:(s,o)∈z.af.zip (rk z):=List.mem_of_getElem? (i:=i) (by rw [List.getElem?_zip_eq_some]; exact ⟨hi,ho⟩);have h6:=List.all_eq_true.1 h5 _ hm;simp only [uP,nL,Bool.and_eq_true,decide_eq_true_eq] at h6;omega
theorem Xm {z:aU} (hg:z.Good) (h:xa z=true):z.Fits∧z.mc∧z.uL:=by
 simp only [xa,Bool.and_eq_true,decide_eq_true_eq] at h;obtain ⟨h1,h2⟩:=h;rw [List.take_of_length_le (by omega)] at h1;have he:∀ s∈z.af,s.set.data.length≤20∧s.sigs.length≤20:=fun s hs=>by
  have:=List.all_eq_true.1 h1 s hs;simp [w9] at this;omega
 refine ⟨⟨hg.1,fun s hs=>⟨((hg.2.2 s hs).1).1,by have:=he s hs; omega,fun d hd=>(((hg.2.2 s hs).1).2.2.2.2 d hd).1⟩⟩,⟨by omega,fun s hs=>by have:=he s hs; omega⟩,⟨by omega,fun s hs=>⟨by have:=he s hs; omega,by have:=he s hs; omega⟩⟩⟩
end Go.Proofs.YtcmnpelmmekdkaaGreatDoor.P
end
end
section
namespace Go.Proofs.YtcmnpelmmekdkaaGreatDoor.P
open Go Go.ax
set_option maxRecDepth 100000
set_option maxHeartbeats 4000000
theorem Xn {α:Type} {l:List α} {k:Nat} (h:k<l.length):∃ x,l[k]? = some x:=⟨l[k],by simp⟩
def gZ (z:aU):Int:=match z.af[(aO z.af ⟨z.ab,4⟩).toNat]? with
 |some s=>(match s.set.data[0]? with | some d=>d.n | none=>0)
 |none=>0
theorem Oo {i j:Nat} (h:i+j≤4294967296):IntKind.i64.wrap (qC .shr .u64 (IntKind.u64.wrap (IntKind.i64.wrap ((i:Int)+j))) (Int.toNat 1))=(((i+j) / 2:Nat):Int):=Nx h
theorem Hs {z:aU} (h:eV z=true):∃ (k:Nat) (s:Signed) (d:Datum),aO z.af ⟨z.ab,4⟩=k∧z.af[k]? = some s∧dp ⟨z.ab,4⟩ s=true∧s.set.data[0]? = some d∧gZ z=d.n:=by
 have h0:=h;simp only [eV,Bool.and_eq_true] at h;obtain ⟨h1,h2,h3,h4,h5⟩:=h;simp only [rh,Bool.and_eq_true,Bool.not_eq_true',decide_eq_false_iff_not] at h2;have h6:=h2.1.1;cases hf:z.af.findIdx? (dp ⟨z.ab,4⟩) with
 |none=>simp [aO,hf] at h6
 |some k =>
  obtain ⟨hk,hq,_⟩:=List.findIdx?_eq_some_iff_getElem.1 hf;have hs:z.af[k]? = some z.af[k]:=List.getElem?_eq_getElem hk;obtain ⟨q1,q2,q3⟩:=uQ h1;have aK:=q2 z.af[k] (List.getElem_mem hk);simp only [fo,Bool.and_eq_true] at aK;have hl:=wZ aK.1;obtain ⟨d,hd⟩:=Xn (l:=z.af[k].set.data) (k:=0) (by omega);have e:aO z.af ⟨z.ab,4⟩=k:=by simp [aO,hf]
  exact ⟨k,z.af[k],d,e,hs,hq,hd,by simp [gZ,e,hs,hd]⟩
theorem Ht (z:aU) (hf:z.Fits) (h:eV z=true):aA E 88 [z.enc] (· = .aL [.int .i64 (gZ z),.int .i64 0]):=by
 have c1:=Ha z hf;rw [h] at c1;obtain ⟨k,s,d,e1,e2,e3,e4,e5⟩:=Hs h;have cg:nM z=true:=by simp only [eV,Bool.and_eq_true] at h; exact h.1
 obtain ⟨f1,f2,_⟩:=G' cg;obtain ⟨g1,_,g3⟩:=uQ cg;have c2:=C3 z ⟨z.ab,4⟩ (by omega) f2 g3 f1;obtain ⟨za,zs⟩:=z;simp only at e1 e2 e3 c2;show aA E _ [DV.agg [.str za,.sl (zs.map Signed.enc)]] _;refine eP Tryz.func88 ?_;refine ar (c1) ?_;refine gO Tryz.func88 ?_;refine ba ?_;refine gO Tryz.func88 ?_;refine ug c2 ?_;rintro r ⟨i,_,rfl,hi⟩;obtain rfl:=hi k s e2 e3;refine gO Tryz.func88 ?_;refine aF (e:=s.enc) (a7 e2) rfl ?_;refine gO Tryz.func88 ?_;refine aF (e:=d.enc) (uM e4) rfl ?_;refine gO Tryz.func88 ?_;rw [e5]
theorem Oq (z:aU) (h:eV z=true):aA E 48 [z.enc] (· = .int .i64 (gZ z)):=by
 obtain ⟨k,s,d,e1,e2,e3,e4,e5⟩:=Hs h;have hl:z.af.length≤2147483648:=(On h).af;have c1:=CO z ⟨z.ab,4⟩ hl;rw [e1] at c1;obtain ⟨za,zs⟩:=z;show aA E _ [DV.agg [.str za,.sl (zs.map Signed.enc)]] _;refine eP Tryz.func48 ?_;refine aa.draw aj bW 14 2000 (by kernel_rfl) ?_;(conv=>whnf);refine bg (c1) ?_;refine gD ?_;refine aF (e:=s.enc) (a7 e2) rfl ?_;refine gD ?_;refine aF (e:=d.enc) (uM e4) rfl ?_;refine gD ?_;refine gS ?_;refine gO Tryz.func48 ?_;rw [e5]
end Go.Proofs.YtcmnpelmmekdkaaGreatDoor.P
end
