/- Several texts of mine, one behind the other. Conditions: as each says. -/
import Derived.Test.YtcmnpelmmekdkaaGreatDoorY46
set_option linter.unusedVariables false
set_option linter.unusedSimpArgs false
namespace Go.Proofs.YtcmnpelmmekdkaaGreatDoor.P
open Go Go.ax
set_option maxRecDepth 100000
set_option maxHeartbeats 4000000
theorem aa1 (l:List Text) (v:Text) (hl:l.length≤1000000):aA E 89 [.sl (l.map .str),.str v] (fun r=>∃ n:Int,r = .int .i64 n∧(0≤n↔v∈l)):=by
 refine eP Tryz.func89 ?_;refine aa.loop (κ:=Nat) ([4,5]++rg 8 11) (fun k=>[(8,.d (.int .i64 k))]) (fun _=>[]) (fun k=>k≤l.length∧∀ j x,j<k→l[j]? = some x→v≠x) (fun k=>l.length - k) 0 ⟨Nat.zero_le _,fun j x h=>by omega⟩ ?_ ?_
 ·exact sZ
 rintro k ⟨hk,aT⟩ IH;refine aa.head aj Tryz.func89 2000 ?_;(conv=>whnf);refine aw (fun h5=>?_) (fun h5=>?_)
 ·have ai:k<l.length:=by simpa using h5
  obtain ⟨x,hx⟩:=aY ai;refine gO Tryz.func89 ?_;refine aF (e := .str x) (a7 hx) rfl ?_;refine gO Tryz.func89 ?_;by_cases e:v=x
  ·refine aM (by simpa using e) ?_;refine gO Tryz.func89 ?_;exact ⟨k,rfl,fun _=>e ▸ List.mem_of_getElem? hx,fun _=>by omega⟩
  ·refine aI (by simpa using e) ?_;refine gO Tryz.func89 ?_;refine aa.back (IH (k+1) ⟨by omega,fun j y hj hy=>?_⟩ (by omega)) ?_
   ·rcases Nat.lt_or_eq_of_le (Nat.le_of_lt_succ hj) with h | h
    ·exact aT j y h hy
    ·subst h; rw [hx] at hy; cases hy; exact e
   exact sZ
 ·have aP:k=l.length:=by simp at h5; omega
  subst aP;refine gO Tryz.func89 ?_;refine ⟨-1,rfl,fun h=>absurd h (by decide),fun h=>?_⟩;obtain ⟨j,hj⟩:=List.getElem?_of_mem h;exact absurd rfl (aT j v (List.getElem?_eq_some_iff.1 hj).1 hj)
theorem aa2 (l:List Text) (v:Text) (hl:l.length≤1000000):aA E 45 [.sl (l.map .str),.str v] (· = .bool (decide (v∈l))):=by
 refine eP Tryz.func45 ?_
 with_reducible refine ug (aa1 l v hl) ?_
 rintro r ⟨n,rfl,hn⟩;refine gO Tryz.func45 ?_;rw [show decide (n≥0)=decide (v∈l) by rw [Bool.eq_iff_iff,decide_eq_true_eq,decide_eq_true_eq]; exact hn]
theorem aa3 {α:Type} {l m:List α} {i j:Nat} {x y:α} (dA:i<j) (hs:i+j+1=l.length) (hm:m.length=l.length) (h1:∀ k,k<i∨j<k→m[k]? = l.reverse[k]?) (h2:∀ k,i≤k→k≤j→m[k]? = l[k]?) (hx:m[i]? = some x) (hy:m[j]? = some y):((m.set i y).set j x).length=l.length∧(∀ k,k<i+1∨j - 1<k→((m.set i y).set j x)[k]? = l.reverse[k]?)∧(∀ k,i+1≤k→k≤j - 1→((m.set i y).set j x)[k]? = l[k]?):=by
 have zF:l[i]? = some x:=by rw [← h2 i (Nat.le_refl _) (by omega)]; exact hx
 have hly:l[j]? = some y:=by rw [← h2 j (by omega) (Nat.le_refl _)]; exact hy
 refine ⟨by simp [hm],fun k hk=>?_,fun k h3 h4=>?_⟩
 ·by_cases e1:k=j
  ·subst e1;rw [List.getElem?_set_self (by simp; omega),List.getElem?_reverse (by omega),← zF]
   congr 1; omega
  ·rw [List.getElem?_set_ne (by omega)];by_cases e2:k=i
   ·subst e2;rw [List.getElem?_set_self (by omega),List.getElem?_reverse (by omega),← hly]
    congr 1; omega
   ·rw [List.getElem?_set_ne (by omega)];exact h1 k (by omega)
 ·rw [List.getElem?_set_ne (by omega),List.getElem?_set_ne (by omega)];exact h2 k (by omega) (by omega)
theorem aa5 (l:List aS) (hl:l.length≤2147483647):aC E 46 [.arr 0 (54,2) (l.map aS.enc)] [.own 0 0] (fun a b=>a = .aL []∧b=[.arr 0 (54,2) (l.reverse.map aS.enc)]):=by
 by_cases h0:l=[]
 ·subst h0;refine aC.run aj (fn:=Tryz.f46) Tryz.func46 (body:=Tryz.f46.body.getD .skip) rfl (by decide) 2000 rfl ?_;(conv=>whnf);refine aa.zj ?_;refine aa.run aj Tryz.func46 2000 ?_;(conv=>whnf);refine aI (by decide) ?_;refine gO Tryz.func46 ?_;exact ⟨rfl,rfl⟩
 have hlp:=List.length_pos_iff.2 h0;refine aC.run aj (fn:=Tryz.f46) Tryz.func46 (body:=Tryz.f46.body.getD .skip) rfl (by decide) 2000 rfl ?_;(conv=>whnf);refine aa.loop (κ:=Nat × Nat × List aS) [2,3,7,8,9,10,11,12,13,14,15,16,17,18,19,20,21,22,23,24,25,26,27] (fun q=>[(0,.own 0 0),(2,.d (.int .i64 q.1)),(3,.d (.int .i64 q.2.1))]) (fun q=>[(0,.arr 0 (54,2) (q.2.2.map aS.enc))]) (fun q=>q.1+q.2.1+1=l.length∧q.1≤q.2.1+1∧q.2.2.length=l.length∧(∀ k,k<q.1∨q.2.1<k→q.2.2[k]? = l.reverse[k]?)∧(∀ k,q.1≤k→k≤q.2.1→q.2.2[k]? = l[k]?)) (fun q=>l.length - q.1) (0,l.length - 1,l) ⟨by simp only; omega,by simp only; omega,rfl,fun k hk=>by simp only at hk; show l[k]? = _; rw [List.getElem?_eq_none (by omega),List.getElem?_eq_none (by simp; omega)],fun k _ _=>rfl⟩ ?_ ?_
 ·(conv=>whnf);repeat (first | exact trivial | (refine sI ?_; conv=>whnf))
  refine And.intro (congrArg (DV.int .i64) ((wrap64 (by simp <;> omega) (by simp <;> omega)).trans (by simp; omega))) ?_;exact sZ
 rintro ⟨i,j,m⟩ ⟨hs,aa6,hm,g1,g2⟩ IH;simp only at hs aa6 hm g1 g2;refine aa.head aj Tryz.func46 2000 ?_;(conv=>whnf);refine aw (fun h5=>?_) (fun h5=>?_)
 ·have dA:i<j:=by have:=of_decide_eq_true h5; simp only at this; omega
  obtain ⟨x,hx⟩:=aY (l:=m) (k:=i) (by omega);obtain ⟨y,hy⟩:=aY (l:=m) (k:=j) (by omega);obtain ⟨k1,k2,k3⟩:=aa3 dA hs hm g1 g2 hx hy;obtain ⟨L0,A5⟩:∃ L0,m.map aS.enc=L0:=⟨_,rfl⟩;obtain ⟨L1,wV⟩:∃ L1,L0.set i y.enc=L1:=⟨_,rfl⟩;have jq:L0.length=l.length:=by rw [← A5,List.length_map,hm]
  have kh:L1.length=l.length:=by rw [← wV,List.length_set,jq]
  have a1:=a7 (f:=aS.enc) hx;have a2:=a7 (f:=aS.enc) hy;have b0:nK L0 (j:Int) y.enc:=A5 ▸ a2;have b1:nK L1 (j:Int) y.enc:=⟨b0.1,by rw [← wV]; simp only [Int.toNat_natCast]; rw [List.getElem?_set_ne (by omega)]; simpa using b0.2⟩;have b2:nK L0 (i:Int) x.enc:=A5 ▸ a1;have CY:L1.set j x.enc=((m.set i y).set j x).map aS.enc:=by rw [← wV,← A5,List.map_set,List.map_set]
  refine gO Tryz.func46 ?_;rw [A5];refine aa.P8 aj bW [0,1,2,3,4,5,6,7,8,9,10,12,14] (fun h=>h=[.arr 0 (54,2) L0]∨h=[.arr 0 (54,2) L1]) (by kernel_rfl) (by kernel_rfl) (.inl rfl) ?_;refine da.float (.own 0 0) rfl rfl (fun h' hh=>?_) ?_
  ·rcases hh with rfl | rfl <;> (refine aQ.run aj ?_; (conv=>whnf); exact ⟨rfl,rfl⟩)
  (conv=>whnf);refine da.float (.d (.int .i64 (i:Int))) rfl rfl (fun h' hh=>?_) ?_
  ·rcases hh with rfl | rfl <;> (refine aQ.run aj ?_; (conv=>whnf); exact ⟨rfl,rfl⟩)
  (conv=>whnf);refine da.float (.own 0 0) rfl rfl (fun h' hh=>?_) ?_
  ·rcases hh with rfl | rfl <;> (refine aQ.run aj ?_; (conv=>whnf); exact ⟨rfl,rfl⟩)
  (conv=>whnf);refine da.float (.d (.int .i64 (j:Int))) rfl rfl (fun h' hh=>?_) ?_
  ·rcases hh with rfl | rfl <;> (refine aQ.run aj ?_; (conv=>whnf); exact ⟨rfl,rfl⟩)
  (conv=>whnf);refine da.float (.own 0 0) rfl rfl (fun h' hh=>?_) ?_
  ·rcases hh with rfl | rfl <;> (refine aQ.run aj ?_; (conv=>whnf); exact ⟨rfl,rfl⟩)
  (conv=>whnf);refine da.float (.d (.int .i64 (j:Int))) rfl rfl (fun h' hh=>?_) ?_
  ·rcases hh with rfl | rfl <;> (refine aQ.run aj ?_; (conv=>whnf); exact ⟨rfl,rfl⟩)
  (conv=>whnf);refine da.float (.cK 0 0 j 0) rfl rfl (fun h' hh=>?_) ?_
  ·rcases hh with rfl | rfl <;> (refine aQ.run aj ?_; (conv=>whnf); refine bQ ⟨by omega,by (first | rw [jq] | rw [kh]); omega⟩ ?_; exact ⟨by rw [Int.toNat_natCast],rfl⟩)
  (conv=>whnf);refine da.float (.d y.enc) rfl rfl (fun h' hh=>?_) ?_
  ·rcases hh with rfl | rfl
   ·refine aQ.run aj ?_;(conv=>whnf);refine aF (e:=y.enc) b0 rfl ?_;(conv=>whnf);exact ⟨rfl,rfl⟩
   ·refine aQ.run aj ?_;(conv=>whnf);refine aF (e:=y.enc) b1 rfl ?_;(conv=>whnf);exact ⟨rfl,rfl⟩
  (conv=>whnf);refine da.float (.own 0 0) rfl rfl (fun h' hh=>?_) ?_
  ·rcases hh with rfl | rfl <;> (refine aQ.run aj ?_; (conv=>whnf); exact ⟨rfl,rfl⟩)
  (conv=>whnf);refine da.float (.d (.int .i64 (i:Int))) rfl rfl (fun h' hh=>?_) ?_
  ·rcases hh with rfl | rfl <;> (refine aQ.run aj ?_; (conv=>whnf); exact ⟨rfl,rfl⟩)
  (conv=>whnf);refine da.float (.cK 0 0 i 0) rfl rfl (fun h' hh=>?_) ?_
  ·rcases hh with rfl | rfl <;> (refine aQ.run aj ?_; (conv=>whnf); refine bQ ⟨by omega,by (first | rw [jq] | rw [kh]); omega⟩ ?_; exact ⟨by rw [Int.toNat_natCast],rfl⟩)
  (conv=>whnf);refine da.op (.d x.enc) [.arr 0 (54,2) L0] rfl rfl ?_ (.inr (.inl rfl)) ?_
  ·refine aQ.run aj ?_;(conv=>whnf);refine aF (e:=x.enc) b2 rfl ?_;(conv=>whnf);exact ⟨rfl,rfl⟩
  (conv=>whnf);refine da.float (.cK 0 0 i 0) rfl rfl (fun h' hh=>?_) ?_
  ·rcases hh with rfl | rfl <;> (refine aQ.run aj ?_; (conv=>whnf); refine bQ ⟨by omega,by (first | rw [jq] | rw [kh]); omega⟩ ?_; exact ⟨by rw [Int.toNat_natCast],rfl⟩)
  (conv=>whnf);refine da.op (.d .undef) [.arr 0 (54,2) L1] rfl rfl ?_ (.inr (.inr rfl)) ?_
  ·refine aQ.run aj ?_;(conv=>whnf);refine aF (e:=x.enc) b2 rfl ?_;(conv=>whnf);subst wV;exact ⟨rfl,rfl⟩
  (conv=>whnf);refine da.float (.cK 0 0 j 0) rfl rfl (fun h' hh=>?_) ?_
  ·rcases hh with rfl | rfl <;> (refine aQ.run aj ?_; (conv=>whnf); refine bQ ⟨by omega,by (first | rw [jq] | rw [kh]); omega⟩ ?_; exact ⟨by rw [Int.toNat_natCast],rfl⟩)
  (conv=>whnf);refine da.op (.d .undef) [.arr 0 (54,2) (L1.set j x.enc)] rfl rfl ?_ (.inl rfl) ?_
  ·refine aQ.run aj ?_;(conv=>whnf);refine aF (e:=y.enc) b1 rfl ?_;(conv=>whnf);exact ⟨rfl,rfl⟩
  (conv=>whnf);refine da.fin ?_;refine gO Tryz.func46 ?_;rw [CY];refine aa.back (IH (i+1,j - 1,(m.set i y).set j x) ⟨by simp only; omega,by simp only; omega,k1,k2,k3⟩ (by simp only; omega)) ?_;(conv=>whnf);repeat (first | exact trivial | (refine sI ?_; conv=>whnf))
  refine And.intro (congrArg (DV.int .i64) ((wrap64 (by simp only; omega) (by simp only; omega)).trans (by simp only; omega))) ?_;exact sZ
 ·have dA:j≤i:=by have:=of_decide_eq_false h5; simp only at this; omega
  have he:m=l.reverse:=by
   apply List.ext_getElem?;intro k;by_cases hk:k<i∨j<k
   ·exact g1 k hk
   ·have e1:k=i:=by omega
    have e2:j=i:=by omega
    rw [g2 k (by omega) (by omega),List.getElem?_reverse (by omega)]
    congr 1; omega
  refine gO Tryz.func46 ?_;rw [he];exact ⟨rfl,rfl⟩
theorem aa7 (v:bK) (z:Text) (hl:v.aq.length≤1000000):aC E 44 [.cells [.d (.str z)]] [.d (nY v),.ptr 0 0] (fun a b=>a = .d (.bool (decide (z∈v.aq)))∧b=[.cells [.d (.str z)]]):=by
 have c1:=aa2 v.aq z hl;apply aC.kG
 case hk=>rfl
 refine aC.run aj (fn:=Tryz.f44) Tryz.func44 (body:=Tryz.f44.body.getD .skip) rfl (by decide) 2000 rfl ?_;(conv=>whnf);refine ar (c1) ?_;refine gO Tryz.func44 ?_;exact ⟨rfl,rfl⟩
def rN (V:List bK) (z:Text):Int:=match V.findIdx? (fun v=>decide (z∈v.aq)) with
 |some i=>(i:Int)
 |none => -1
theorem aa8 (V:List bK) (z:Text) (hV:∀ v∈V,v.aq.length≤1000000) (hl:V.length≤2147483647):aC E 43 [.cells [.d (.str z)]] [.d (.sl (V.map nY)),.fn (.func 44) [] [.ptr 0 0]] (fun a b=>a = .d (.int .i64 (rN V z))∧b=[.cells [.d (.str z)]]):=by
 refine aC.run aj (fn:=Tryz.f43) Tryz.func43 (body:=Tryz.f43.body.getD .skip) rfl (by decide) 2000 rfl ?_;(conv=>whnf);refine aa.loop (κ:=Nat) ([4,5]++rg 8 11) (fun k=>[(8,.d (.int .i64 k))]) (fun _=>[]) (fun k=>k≤V.length∧∀ j v,j<k→V[j]? = some v→z ∉ v.aq) (fun k=>V.length - k) 0 ⟨Nat.zero_le _,fun j v h=>by omega⟩ ?_ ?_
 ·exact sZ
 rintro k ⟨hk,aT⟩ IH;refine aa.head aj Tryz.func43 2000 ?_;(conv=>whnf);refine aw (fun h5=>?_) (fun h5=>?_)
 ·have ai:k<V.length:=by simpa using h5
  obtain ⟨v,hv⟩:=aY ai;have c1:=aa7 v z (hV v (List.mem_of_getElem? hv));refine gO Tryz.func43 ?_;refine aF (e:=nY v) (a7 hv) rfl ?_;refine gO Tryz.func43 ?_
  with_reducible refine bR (c1) ?_
  refine gO Tryz.func43 ?_;by_cases hm:z∈v.aq
  ·refine aM (decide_eq_true hm) ?_;refine gO Tryz.func43 ?_;have e:rN V z=k:=by
    have:V.findIdx? (fun v=>decide (z∈v.aq))=some k:=by
     rw [List.findIdx?_eq_some_iff_getElem];refine ⟨ai,?_,fun j hj=>?_⟩
     ·have:=(List.getElem?_eq_some_iff.1 hv).2; rw [this]; exact decide_eq_true hm
     ·have:=aT j V[j] hj (by simp); simpa using this
    rw [rN,this]
   rw [e];exact ⟨rfl,rfl⟩
  ·refine aI (decide_eq_false hm) ?_;refine gO Tryz.func43 ?_;refine aa.back (IH (k+1) ⟨by omega,fun j u hj hu=>?_⟩ (by omega)) ?_
   ·rcases Nat.lt_or_eq_of_le (Nat.le_of_lt_succ hj) with h | h
    ·exact aT j u h hu
    ·subst h; rw [hv] at hu; cases hu; exact hm
   exact sZ
 ·have aP : k = V.length := by have : V.length ≤ k := by simpa using h5
                               omega
  subst aP;refine gO Tryz.func43 ?_;have e:rN V z = -1:=by
   have:V.findIdx? (fun v=>decide (z∈v.aq))=none:=by
    rw [List.findIdx?_eq_none_iff];intro v hv;obtain ⟨j,hj⟩:=List.getElem?_of_mem hv;exact decide_eq_false (aT j v (aZ hj) hj)
   rw [rN,this]
  rw [e];exact ⟨rfl,rfl⟩
theorem DU (w:ca) (s z:Text) (h:(dn w&&(Nm.valid s&&Nm.valid z))=true):jd w s z=(match (dM w.aq s).find? (fun v=>decide (z∈v.aq)) with | some v=>(v.list,0) | none=>([],4)):=if_pos h
theorem aa9 {V:List bK} {z:Text} {v:bK} (h:V.find? (fun v=>decide (z∈v.aq))=some v):∃ i:Nat,rN V z=i∧V[i]? = some v:=by
 rw [List.find?_eq_some_iff_getElem] at h;obtain ⟨h1,i,h2,h3,h4⟩:=h;refine ⟨i,?_,by rw [← h3]; simp⟩;have:V.findIdx? (fun v=>decide (z∈v.aq))=some i:=by
  rw [List.findIdx?_eq_some_iff_getElem];exact ⟨h2,by rw [h3]; exact h1,fun j hj=>by have:=h4 j hj; simpa using this⟩
 rw [rN,this]
theorem aa' {V:List bK} {z:Text} (h:V.find? (fun v=>decide (z∈v.aq))=none):rN V z = -1:=by
 have:V.findIdx? (fun v=>decide (z∈v.aq))=none:=by
  rw [List.findIdx?_eq_none_iff];intro v hv;have:=List.find?_eq_none.1 h v hv
  simpa using this
 rw [rN,this]
theorem A6 (w:ca) (s z:Text) (hf:w.Fits) (iU:s.length≤maxLen) (gG:z.length≤maxLen):aA E 15 [w.enc,.str s,.str z] (· = .aL [.sl ((jd w s z).1.map aS.enc),.int .i64 (jd w s z).2]):=by
 have cw:=DF w hf;have cs:=lk s iU;have cz:=lk z gG;have gP:dn w=false∨Nm.valid s=false∨Nm.valid z=false→jd w s z=([],1):=fun h=>by
  have:¬ (dn w&&(Nm.valid s&&Nm.valid z))=true:=by rcases h with h | h | h <;> simp [h]
  exact if_neg this
 cases h1:dn w
 ·rw [gP (.inl h1)];rw [h1] at cw;refine aA.norm ?_;refine eP Tryz.func15 ?_;refine ar (cw) ?_;refine gO Tryz.func15 ?_;refine bq ?_;refine gO Tryz.func15 ?_;refine bq ?_;refine gO Tryz.func15 ?_;refine bq ?_;refine gO Tryz.func15 ?_;rfl
 cases h2:Nm.valid s
 ·rw [gP (.inr (.inl h2))];rw [h1] at cw;rw [h2] at cs;refine aA.norm ?_;refine eP Tryz.func15 ?_;refine ar (cw) ?_;refine gO Tryz.func15 ?_;refine ba ?_;refine gO Tryz.func15 ?_;refine ar (cs) ?_;refine gO Tryz.func15 ?_;refine bq ?_;refine gO Tryz.func15 ?_;refine bq ?_;refine gO Tryz.func15 ?_;rfl
 cases h3:Nm.valid z
 ·rw [gP (.inr (.inr h3))];rw [h1] at cw;rw [h2] at cs;rw [h3] at cz;refine aA.norm ?_;refine eP Tryz.func15 ?_;refine ar (cw) ?_;refine gO Tryz.func15 ?_;refine ba ?_;refine gO Tryz.func15 ?_;refine ar (cs) ?_;refine gO Tryz.func15 ?_;refine ba ?_;refine gO Tryz.func15 ?_;refine ar (cz) ?_;refine gO Tryz.func15 ?_;refine bq ?_;refine gO Tryz.func15 ?_;rfl
 rw [h1] at cw;rw [h2] at cs;rw [h3] at cz;rw [DU w s z (by simp [h1,h2,h3])];obtain ⟨H,hl⟩:=mj h1;have hu:=DJ H hl;have c1:=PW w hf.aq H (by omega);have c2:=QC w.aq s hf.aq H hu h2;have gT:=AG H s;have I7:∀ v∈dM w.aq s,_:=fun v hv=>IG H hv;have B:=lB H s;have c3:=aa8 (dM w.aq s) z (fun v hv=>by have:=(I7 v hv).2.1; omega) (by omega);generalize dM w.aq s=V at *;generalize ml w.aq=es at *;generalize iK w.aq (mZ w.aq) w.aq.length=rs at *;cases QM:V.find? (fun v=>decide (z∈v.aq)) with
 |none =>
  rw [aa' QM] at c3;refine aA.norm ?_;refine eP Tryz.func15 ?_;refine ar (cw) ?_;refine gO Tryz.func15 ?_;refine ba ?_;refine gO Tryz.func15 ?_;refine ar (cs) ?_;refine gO Tryz.func15 ?_;refine ba ?_;refine gO Tryz.func15 ?_;refine ar (cz) ?_;refine gO Tryz.func15 ?_;refine ba ?_;refine gO Tryz.func15 ?_;refine wD (ds:=[w.enc]) c1 ?_;rintro r b ⟨rfl,rfl⟩;refine gO Tryz.func15 ?_
  with_reducible refine bR (c2) ?_
  refine gO Tryz.func15 ?_
  with_reducible refine bR (c3) ?_
  refine gO Tryz.func15 ?_;refine bq ?_;refine gO Tryz.func15 ?_;rfl
 |some v =>
  obtain ⟨i0,e0,QN⟩:=aa9 QM;rw [e0] at c3;have iC:=aZ QN;refine eP Tryz.func15 ?_;refine ar (cw) ?_;refine gO Tryz.func15 ?_;refine ba ?_;refine gO Tryz.func15 ?_;refine ar (cs) ?_;refine gO Tryz.func15 ?_;refine ba ?_;refine gO Tryz.func15 ?_;refine ar (cz) ?_;refine gO Tryz.func15 ?_;refine ba ?_;refine gO Tryz.func15 ?_;refine wD (ds:=[w.enc]) c1 ?_;rintro r b ⟨rfl,rfl⟩;refine gO Tryz.func15 ?_
  with_reducible refine bR (c2) ?_
  refine gO Tryz.func15 ?_
  with_reducible refine bR (c3) ?_
  refine gO Tryz.func15 ?_;refine aI (decide_eq_false (by omega)) ?_;(conv=>whnf);repeat ((fail_if_success (first | (refine aa.rY 10 (54,2) (by decide) rfl ?_) | fail)); (refine aa.run aj Tryz.func15 1 ?_); (conv=>whnf))
  refine aa.rY 10 (54,2) (by decide) rfl ?_;(conv=>whnf);refine gO Tryz.func15 ?_;refine aa.loop (κ:=Nat × bK × List aS) [9,10,33,34,35,36,37,38,39,40,41,42,43,44,45,46,47,48,49,50,51] (fun q=>[(9,.d (.int .i64 q.1)),(10,.own 5 1)]) (fun q=>[(5,.arr 1 (54,2) (q.2.2.map aS.enc))]) (fun q=>V[q.1]? = some q.2.1∧v.list=q.2.1.list++q.2.2.reverse∧q.2.2.length+q.1≤i0) (fun q=>q.1) (i0,v,[]) ⟨QN,by simp,by simp⟩ ?_ ?_
  ·(conv=>whnf);repeat (first | exact trivial | (refine sI ?_; conv=>whnf))
   refine And.intro rfl ?_;exact sZ
  rintro ⟨i,u,L⟩ ⟨k1,k2,k3⟩ IH;simp only at k1 k2 k3;have hi:=aZ k1;refine aa.head aj Tryz.func15 2000 ?_;(conv=>whnf);refine aF (e:=nY u) (a7 k1) rfl ?_;refine gO Tryz.func15 ?_;rcases B.back k1 with ⟨q1,q2⟩ | ⟨b,u2,q1,q2,q3,q4⟩
  ·have c4:=aa5 L (by omega);rw [q2,List.nil_append] at k2;refine aI (decide_eq_false (by omega)) ?_;refine gO Tryz.func15 ?_
   with_reducible refine bR (c4) ?_
   refine gO Tryz.func15 ?_;show DV.aL [DV.sl (L.reverse.map aS.enc),DV.int .i64 0]=DV.aL [DV.sl (v.list.map aS.enc),DV.int .i64 0];rw [k2]
  ·refine aM (decide_eq_true (by omega)) ?_;refine gO Tryz.func15 ?_;refine aF (e:=nY u) (a7 k1) rfl ?_;refine gO Tryz.func15 ?_;refine bQ ⟨by simp; omega,by simp [DV.cells]⟩ ?_;refine gO Tryz.func15 ?_;refine aF (e:=nY u) (a7 k1) rfl ?_;refine gO Tryz.func15 ?_;refine aa.back (IH (b,u2,L++[u.bH]) ⟨q3,by rw [k2,q4]; simp,by simp; omega⟩ q2) ?_;(conv=>whnf);repeat (first | exact trivial | (refine sI ?_; conv=>whnf))
   refine And.intro (by simp) ?_;exact sZ
end Go.Proofs.YtcmnpelmmekdkaaGreatDoor.P
