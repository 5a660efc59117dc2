/- Several texts of mine, one behind the other. Conditions: as each says. -/
import Derived.Test.YtfmdaiojokniiaaGreatDoorY35
set_option linter.unusedVariables false
set_option linter.unusedSimpArgs false
section
namespace Go.Proofs.YtfmdaiojokniiaaGreatDoor.P
open Go Go.ax Go.RowKit
set_option maxRecDepth 100000
set_option maxHeartbeats 4000000
theorem KJ {ay:Nat→Prop} {w:World} {x y:DV} {vs:List Value} (h:iC ay w [x,y] vs):∃ u v,vs=[u,v]∧VD ay w x u∧VD ay w y v:=by
 obtain ⟨hl,hv⟩:=h;obtain ⟨u,v,rfl⟩:∃ u v,vs=[u,v]:=by
  match vs,hl with
  | [u,v],_=>exact ⟨u,v,rfl⟩
 exact ⟨u,v,rfl,hv 0 x u rfl rfl,hv 1 y v rfl rfl⟩
theorem Uy {w w':World} (h:Below w.heap.size w w'):Ext w w':=⟨h.os,h.tape,h.output,h.size,h.block⟩
theorem Uz (t:Text) (c:UInt8):aq E 288 [.str t,.int .u8 c.toNat] (· = .int .i64 (Lib.indexByte t c)):=by
 unfold aq;refine ⟨⟨_,Tryz.func288,rfl,by decide⟩,fun ay w vs _ _ hv=>?_⟩;obtain ⟨u,v,rfl,h1,h2⟩:=KJ hv;cases h1;cases h2;have:=Any.strings_IndexByte Tryz.Ux ⟨t.toArray⟩ (c.toNat:Int) w;refine this.mono fun e w' ⟨h1,h2⟩=>⟨_,_,h1,rfl,?_,by rw [h2]; exact Ext.refl w⟩;rw [show (ByteArray.mk t.toArray).data.toList=t by simp,show ((c.toNat:Int)).toNat.toUInt8=c by simp];exact .int _ _
theorem EE:∀ (L:List Text),Lib.join L [46]=Nm.glue L
 | []=>rfl
 | [x]=>by simp [Lib.join,List.intercalate,Nm.glue]
 |x::y::t=>by
  have:=EE (y::t);unfold Lib.join at this ⊢;rw [Nm.glue,← this];simp [List.intercalate]
theorem UA (L:List Text) (hl:L.length≤1000) (hb:(Nm.glue L).length≤1000000):aq E 339 [.sl (L.map .str),.str [46]] (· = .str (Nm.glue L)):=by
 unfold aq;refine ⟨⟨_,Tryz.func339,rfl,by decide⟩,fun ay w vs _ _ hv=>?_⟩;obtain ⟨u,v,rfl,h1,h2⟩:=KJ hv;cases h2;have kC:(L.map fun x=>ByteArray.mk x.toArray).map (·.data.toList)=L:=by simp [Function.comp_def]
 have fin:∀ e w',(e=Ending.returned (.string ⟨(Lib.join ((L.map fun x=>ByteArray.mk x.toArray).map (·.data.toList)) (ByteArray.mk [46].toArray).data.toList).toArray⟩)∧Below w.heap.size w w')→∃ v r,e = .returned v∧r=DV.str (Nm.glue L)∧VD (fun b=>ay b) w' r v∧Ext w w':=fun e w' ⟨h1,h2⟩=>by
  refine ⟨_,_,h1,rfl,?_,Uy h2⟩;rw [kC,show (ByteArray.mk [46].toArray).data.toList=[46] by simp,EE];exact .str _
 generalize hD:L.map DV.str=D at h1;cases h1 with
 |slnil =>
  have hn:L=[]:=List.map_eq_nil_iff.1 hD;subst hn;exact (Any.strings_Join_none Tryz.Az Tryz.AA none 0 ⟨#[46]⟩ w).mono fun e w' ⟨q1,q2⟩=>fin e w' ⟨q1,q2 ▸ Below.refl _ _⟩
 |jB a =>
  have hn:L=[]:=List.map_eq_nil_iff.1 hD;subst hn;exact (Any.strings_Join_none Tryz.Az Tryz.AA (some a) 0 ⟨#[46]⟩ w).mono fun e w' ⟨q1,q2⟩=>fin e w' ⟨q1,q2 ▸ Below.refl _ _⟩
 |sl _ blk off cap sz f mn bY iw hlen dq bD bZ =>
  subst hD;by_cases hn:L=[]
  ·subst hn;exact (Any.strings_Join_none Tryz.Az Tryz.AA (some ⟨blk,off,none⟩) cap ⟨#[46]⟩ w).mono fun e w' ⟨q1,q2⟩=>fin e w' ⟨q1,q2 ▸ Below.refl _ _⟩
  ·have s4:∀ (j:Nat) x,(L.map fun x=>ByteArray.mk x.toArray)[j]? = some x→w.cell? ⟨blk,off+j,none⟩=some (.string x):=fun j x hx=>by
    rw [List.getElem?_map] at hx;cases e:L[j]? with
    |none=>rw [e] at hx; cases hx
    |some t =>
     rw [e] at hx;cases hx;have e1:(L.map DV.str)[j]? = some (.str t):=by rw [List.getElem?_map,e]; rfl
     have tR:sz=1:=(hlen j _ e1).symm;have c1:=dq j 0 (.str t) (.str t) e1 rfl;have v1:=bD j 0 (.str t) (.str t) e1 rfl;rw [tR,Nat.mul_one,Nat.add_zero] at c1;rw [c1];generalize f j 0=u at v1;cases v1;rfl
   obtain ⟨t,r,rfl⟩:=List.exists_cons_of_ne_nil hn;have UB:blk<w.heap.size:=World.block_lt_of_cell? _ _ (s4 0 ⟨t.toArray⟩ rfl);have:=Any.strings_Join Tryz.Az Tryz.AA blk off cap ((t::r).map fun x=>ByteArray.mk x.toArray) ⟨#[46]⟩ w s4 UB (by simp at hl ⊢; omega) (by simpa using iw) (by rw [kC,show (ByteArray.mk [46].toArray).data.toList=[46] by simp,EE]; omega);rw [List.length_map] at this;rw [List.length_map];exact this.mono fun e w' h=>fin e w' h
theorem KK:∀ {L:List Text},(∀ t∈L,t.length≤100)→(Nm.glue L).length≤L.length*101
 | [],_=>by simp [Nm.glue]
 | [x],h=>by have:=h x (by simp); simp [Nm.glue]; omega
 |x::y::t,h=>by
  have h1:=h x (by simp);have h2:=KK (L:=y::t) fun u hu=>h u (List.mem_cons_of_mem _ hu);rw [Nm.glue];simp only [List.length_append,List.length_cons] at h2 ⊢;omega
theorem UC (L:List Text) (hl:L.length≤1000) (hb:∀ t∈L,t.length≤100):aq E 296 [.sl (L.map .str)] (· = match na L with | some t => .aF [.str t,.int .i64 0] | none => .aF [.str [],.int .i64 11]):=by
 have no:Nm.parts L=false→na L=none:=fun e=>by rw [na,e]; rfl
 have c2:=fun h=>UA L hl h;refine eP Tryz.func296 ?_;by_cases h0:L=[]
 ·subst h0;have e:na []=some [46]:=by decide
  rw [e];refine aV (by decide) ?_;refine gO Tryz.func296 ?_
  with_reducible rfl
 refine aW (by simpa using h0) ?_;refine gO Tryz.func296 ?_;refine ah (fun h1=>?_) (fun h1=>?_)
 ·have h1:=of_decide_eq_true h1
  rw [no (by
   cases e:Nm.parts L
   ·rfl
   ·have:=(oP.1 e).1;simp at h1
    omega)]
  refine gO Tryz.func296 ?_
  with_reducible rfl
 have UD:L.length≤8:=by have:=of_decide_eq_false h1; simp at this; omega
 refine gO Tryz.func296 ?_;refine I.loop (κ:=Nat) (rg 2 4++rg 15 17) (fun k=>[(15,.d (.int .i64 k))]) (fun _=>[]) (fun k=>k≤L.length∧∀ i x,i<k→L[i]? = some x→fA i x=true) (fun k=>L.length - k) 0 ⟨Nat.zero_le _,fun i x h=>by omega⟩ ?_ ?_
 ·exact sZ
 rintro k ⟨hk,aH⟩ IH;refine I.head af Tryz.func296 2000 ?_;(conv=>whnf);refine ah (fun h5=>?_) (fun h5=>?_)
 ·have ai:k<L.length:=by simpa using h5
  obtain ⟨x,hx⟩:=aD ai
  have bad:fA k x=false→na L=none:=fun e=>no (by
   cases e2:Nm.parts L
   ·rfl
   ·have:=(oP.1 e2).2 k x hx
    rw [e] at this; cases this)
  have gb:fA k x=true→∀ i y,i<k+1→L[i]? = some y→fA i y=true:=fun e i y hi hy=>by
   rcases Nat.lt_or_eq_of_le (Nat.le_of_lt_succ hi) with h | h
   ·exact aH i y h hy
   ·subst h; rw [hx] at hy; cases hy; exact e
  refine gO Tryz.func296 ?_;refine aB (e := .str x) (aN hx) rfl ?_;refine gO Tryz.func296 ?_;refine ao (C' x) ?_;refine gO Tryz.func296 ?_;cases qd:Nm.label x
  ·refine aY ?_;refine gO Tryz.func296 ?_;refine ah (fun h6=>?_) (fun h6=>?_)
   ·have h6:=of_decide_eq_true h6;refine gO Tryz.func296 ?_;refine aY ?_;refine gO Tryz.func296 ?_;rw [bad (by simp [fA,qd]; omega)]
   ·have h6:=of_decide_eq_false h6;refine gO Tryz.func296 ?_;by_cases h7:x=[42]
    ·refine aW (by simpa using h7) ?_;refine gO Tryz.func296 ?_;refine I.back (IH (k+1) ⟨by omega,gb (by simp [fA,h7]; omega)⟩ (by omega)) ?_;exact sZ
    ·refine aV (by simpa using h7) ?_;refine gO Tryz.func296 ?_;rw [bad (by simp [fA,qd,h7])]
  ·refine aQ ?_;refine gO Tryz.func296 ?_;refine aQ ?_;refine gO Tryz.func296 ?_;refine I.back (IH (k+1) ⟨by omega,gb (by simp [fA,qd])⟩ (by omega)) ?_;exact sZ
 ·have aC:k=L.length:=by simp at h5; omega
  subst aC;have hp:Nm.parts L=true:=oP.2 ⟨UD,fun i x hx=>aH i x (List.getElem?_eq_some_iff.1 hx).1 hx⟩;have th:fC L=Nm.glue L:=by rw [fC,if_neg h0]
  have iK:=KK hb;have c2:=c2 (by omega);clear IH;unfold na;rw [hp,th,Bool.true_and];refine gO Tryz.func296 ?_;refine ao (c2) ?_;refine gO Tryz.func296 ?_;refine ah (fun h6=>?_) (fun h6=>?_)
  ·have h6:=of_decide_eq_true h6;refine gO Tryz.func296 ?_;rw [decide_eq_false (by omega)];rfl
  ·have h6:=of_decide_eq_false h6;refine gO Tryz.func296 ?_;rw [decide_eq_true (by omega)];rfl
theorem KL:∀ (t:Text),(∀ r,Nm.split t=[r]→Lib.indexByte t 46 = -1∧t=r)∧∀ x y r,Nm.split t=x::y::r→∃ n:Nat,Lib.indexByte t 46=n∧t.drop (n+1)=Nm.glue (y::r)∧n+1≤t.length
 | []=>by simp [Nm.split,Lib.indexByte]
 |c::t=>by
  obtain ⟨h1,h2⟩:=KL t;by_cases hc:c=46
  ·subst hc;have e:Nm.split (46::t)=[]::Nm.split t:=by simp [Nm.split]
   have e2:Lib.indexByte (46::t) 46=0:=by simp [Lib.indexByte]
   rw [e,e2];refine ⟨fun r hr=>?_,fun x y r hr=>?_⟩
   ·have:=Nm.l7 t;simp at hr;exact absurd hr.2 this
   ·simp only [List.cons.injEq] at hr;refine ⟨0,rfl,?_,by simp⟩;rw [← hr.2,Nm.rT];rfl
  ·have e2:Lib.indexByte (c::t) 46=if Lib.indexByte t 46 = -1 then -1 else Lib.indexByte t 46+1:=by
    rw [Lib.indexByte,if_neg (by simpa using hc)];simp
   cases hs:Nm.split t with
   |nil=>exact absurd hs (Nm.l7 t)
   |cons h r0 =>
    have e:Nm.split (c::t)=(c::h)::r0:=by simp [Nm.split,hc,hs]
    rw [e,e2];refine ⟨fun r hr=>?_,fun x y r hr=>?_⟩
    ·simp only [List.cons.injEq] at hr;obtain ⟨rfl,rfl⟩:=hr;obtain ⟨k1,k2⟩:=h1 h hs;rw [if_pos k1];exact ⟨rfl,by rw [k2]⟩
    ·simp only [List.cons.injEq] at hr;obtain ⟨rfl,rfl⟩:=hr;obtain ⟨n,k1,k2,k3⟩:=h2 h y r hs;rw [if_neg (by omega)];exact ⟨n+1,by omega,by simpa using k2,by simp; omega⟩
theorem KM (t:Text) (hv:Nm.valid t=true) (hr:t≠[46]):aq E 234 [.str t] (· = .aF [.str (fC (Nm.labels t).tail),.int .i64 0]):=by
 have hlen:=eB hv;have c1:=r8 t (ou (by omega));rw [hv] at c1;have c2:=Uz t 46;have lk:Nm.labels t=Nm.split t:=by rw [Nm.labels,if_neg hr]
 obtain ⟨h1,h2⟩:=KL t;rw [lk];refine eP Tryz.func234 ?_;refine ao (c1) ?_;refine gO Tryz.func234 ?_;refine aQ ?_;refine gO Tryz.func234 ?_;refine aW (by simpa using hr) ?_;refine gO Tryz.func234 ?_;refine ao (c2) ?_;refine gO Tryz.func234 ?_;cases hs:Nm.split t with
 |nil=>exact absurd hs (Nm.l7 t)
 |cons x r =>
  cases r with
  |nil =>
   obtain ⟨k1,k2⟩:=h1 x hs;refine aW (by rw [k1]; decide) ?_;refine gO Tryz.func234 ?_;rfl
  |cons y r =>
   obtain ⟨n,k1,k2,k3⟩:=h2 x y r hs;have hw:IntKind.i64.wrap (Lib.indexByte t 46+1)=((n+1:Nat):Int):=by rw [k1,wrap64 (by omega) (by omega)]; omega
   have hd:List.drop ((some (IntKind.i64.wrap (Lib.indexByte t 46+1))).getD 0).toNat (List.take ((none:Option Int).getD (t.length:Int)).toNat t)=fC (y::r):=by
    rw [hw]
    simpa [fC] using k2
   refine aV (by rw [k1]; simp) ?_;refine gO Tryz.func234 ?_;refine bc ⟨by rw [hw]; simp; omega,by rw [hw]; simp; omega,by simp⟩ ?_;(conv=>whnf);rw [hd];refine gO Tryz.func234 ?_;rfl
end Go.Proofs.YtfmdaiojokniiaaGreatDoor.P
end
section
namespace Go.Proofs.YtfmdaiojokniiaaGreatDoor.P
open Go Go.ax
set_option maxRecDepth 100000
set_option maxHeartbeats 4000000
theorem KN:Nm.labels [46]=[]:=rfl
theorem EF {t:Text} (h:Nm.labels t=[]):t=[46]:=by rw [← xV t,h]; rfl
theorem KO {s t:Text} (h:Nm.labels s=Nm.labels t):s=t:=by rw [← xV s,h,xV]
theorem UE {t:Text} (h:t≠[46]):Nm.labels t≠[]:=fun e=>h (EF e)
theorem KP {t:Text} (hv:Nm.valid t=true) (hr:t≠[46]):t.length≤60∧Nm.parts (Nm.split t)=true:=by
 simpa [Nm.valid,hr] using hv
theorem uV {t:Text} (hv:Nm.valid t=true) (hr:t≠[46]):Nm.valid (fC (Nm.labels t).tail)=true∧Nm.labels (fC (Nm.labels t).tail)=(Nm.labels t).tail:=by
 obtain ⟨h1,h2⟩:=KP hv hr;have hd:=Nm.He t;have hg:=Nm.rT t;rw [Nm.labels,if_neg hr];generalize Nm.split t=L at *;cases L with
 |nil=>exact ⟨rfl,rfl⟩
 |cons x r =>
  cases r with
  |nil=>exact ⟨rfl,rfl⟩
  |cons y r =>
   have e:fC (y::r)=Nm.glue (y::r):=by simp [fC]
   have hs:Nm.split (Nm.glue (y::r))=y::r:=Nm.Hf _ (by simp) fun u hu=>hd u (List.mem_cons_of_mem _ hu);obtain ⟨p1,p2⟩:=oP.1 h2;have hy:Nm.label y=true:=by simpa [fA] using p2 1 y rfl
   have aJ:Nm.glue (y::r)≠[46]:=fun e=>by
    rw [e] at hs;have e2:Nm.split [46]=[[],[]]:=by decide
    rw [e2] at hs;cases hs;exact absurd hy (by decide)
   have hl:(Nm.glue (y::r)).length≤60:=by
    rw [← hg,Nm.glue] at h1;simp only [List.length_append,List.length_cons] at h1;omega
   show Nm.valid (fC (y::r))=true∧Nm.labels (fC (y::r))=y::r;rw [e];refine ⟨?_,by rw [Nm.labels,if_neg aJ,hs]⟩
   have hp:Nm.parts (y::r)=true:=oP.2 ⟨by simp at p1 ⊢; omega,fun i u hu=>by
    have:=p2 (i+1) u (by simpa using hu);simp [fA] at this
    simp [fA,this]⟩
   simp [Nm.valid,aJ,hs,hp,hl]
theorem UF (a:Text):Nm.under a a=true:=by simp [Nm.under]
theorem UG {a b c:Text} (h:Nm.under a b=true) (k:Nm.under b c=true):Nm.under a c=true:=by
 simp only [Nm.under,decide_eq_true_eq] at *;exact k.trans h
theorem UH {a b:Text} (h:Nm.under a b=true) (k:Nm.under b a=true):a=b:=by
 simp only [Nm.under,decide_eq_true_eq] at *;exact KO (k.eq_of_length (Nat.le_antisymm k.length_le h.length_le))
theorem KQ {a:Text} (h:Nm.under [46] a=true):a=[46]:=by
 simp only [Nm.under,decide_eq_true_eq,KN,List.suffix_nil] at h;exact EF h
theorem EG {n d:Text} (hv:Nm.valid n=true) (hr:n≠[46]) (h:Nm.under n d=true) (aJ:n≠d):Nm.under (fC (Nm.labels n).tail) d=true:=by
 simp only [Nm.under,decide_eq_true_eq] at *;rw [(uV hv hr).2];cases e:Nm.labels n with
 |nil=>exact absurd (EF e) hr
 |cons x r =>
  rw [e] at h;rcases List.suffix_cons_iff.1 h with k | k
  ·exact absurd (KO (e.trans k.symm)) aJ
  ·exact k
theorem UI {n:Text} (hv:Nm.valid n=true) (hr:n≠[46]):Nm.under n (fC (Nm.labels n).tail)=true:=by
 simp only [Nm.under,decide_eq_true_eq];rw [(uV hv hr).2];exact List.tail_suffix _
theorem KR {n:Text} (hv:Nm.valid n=true) (hr:n≠[46]):(Nm.labels (fC (Nm.labels n).tail)).length<(Nm.labels n).length:=by
 rw [(uV hv hr).2,List.length_tail];have:=List.length_pos_iff.2 (UE hr);omega
theorem UJ {z:aR} {c:Text} (h1:z.ab.any (cE ⟨c,2⟩)=true) (h2:c≠z.aj):c∈bR z.aj z.ab:=by
 obtain ⟨s,hs,h⟩:=List.any_eq_true.1 h1;simp only [cE,Bool.and_eq_true,beq_iff_eq] at h;unfold bR;exact List.mem_map.2 ⟨s,List.mem_filter.2 ⟨hs,by simp [gu,h.1,h.2,h2]⟩,h.1⟩
theorem EH {z:aR} {c:Text} (h:c∈bR z.aj z.ab):z.ab.any (cE ⟨c,2⟩)=true∧c≠z.aj:=by
 obtain ⟨s,hs,rfl,hc⟩:=nR h;simp [gu] at hc;exact ⟨List.any_eq_true.2 ⟨s,hs,by simp [cE,hc.1]⟩,hc.2⟩
theorem UK {z:aR} (V:gv z) {n c:Text} (h:c∈bR z.aj z.ab) (hu:Nm.under n c=true):lE z n=some c:=by
 unfold lE;cases e:(bR z.aj z.ab).find? fun d=>Nm.under n d with
 |none=>exact absurd hu (by simpa using List.find?_eq_none.1 e c h)
 |some d=>rw [V.cu d (List.mem_of_find?_eq_some e) c h n (by simpa using List.find?_some e) hu]
theorem UL {z:aR} (V:gv z) {n:Text} (h:∀ d∈bR z.aj z.ab,Nm.under n d=true→Nm.under z.aj d=true):lE z n=none:=by
 unfold lE;rw [List.find?_eq_none];intro d hd hu;obtain ⟨s,hs,rfl,hc⟩:=nR hd;exact (EH hd).2 (UH (V.under s hs) (h _ hd (by simpa using hu)))
def EI (z:aR) (n:Text):DV:=if Nm.valid n&&dI z then (if Nm.under n z.aj then (match lE z n with | some c => .aF [.str c,.bool true,.int .i64 0] | none => .aF [.str [],.bool false,.int .i64 0]) else .aF [.str [],.bool false,.int .i64 20]) else .aF [.str [],.bool false,.int .i64 1]
theorem UM (z:aR) (n:Text) (hf:z.Fits) (hn:n.length≤maxLen):aq E 155 [z.enc,.str n] (· = EI z n):=by
 have c1:=fZ n hn;have c2:=sk z hf;unfold EI;cases h1:Nm.valid n
 ·rw [h1] at c1;refine eP Tryz.func155 ?_;repeat' (first | with_reducible refine ao (c1) ?_ | with_reducible refine au (c1) ?_ | with_reducible refine cY ?_ | with_reducible refine cN ?_ | with_reducible refine ah (fun _=>?_) (fun _=>?_) | refine gA Tryz.func155 ?_ | refine gB ?_ | with_reducible rfl)
  all_goals rfl
 cases h2:dI z
 ·rw [h1] at c1;rw [h2] at c2;refine eP Tryz.func155 ?_;repeat' (first | with_reducible refine ao (c1) ?_ | with_reducible refine au (c1) ?_ | with_reducible refine ao (c2) ?_ | with_reducible refine au (c2) ?_ | with_reducible refine cY ?_ | with_reducible refine cN ?_ | with_reducible refine ah (fun _=>?_) (fun _=>?_) | refine gA Tryz.func155 ?_ | refine gB ?_ | with_reducible rfl)
  all_goals rfl
 rw [h1] at c1;rw [h2] at c2;have V:=Kw h2;have c3:=uk n z.aj hn (by have:=eB V.aj; exact ou (by omega));rw [zS h1 V.aj,h1,V.aj] at c3;have hlen:=V.len;refine eP Tryz.func155 ?_;refine ao (c1) ?_;refine gO Tryz.func155 ?_;refine aQ ?_;refine gO Tryz.func155 ?_;refine ao (c2) ?_;refine gO Tryz.func155 ?_;refine aQ ?_;refine gO Tryz.func155 ?_;refine ao (c3) ?_;refine gO Tryz.func155 ?_;cases h3:Nm.under n z.aj
 ·refine aY ?_;refine gO Tryz.func155 ?_;rfl
 refine aQ ?_;refine gO Tryz.func155 ?_;refine I.loop (κ:=Text) ([4,5,6,10,11,12]++rg 33 18) (fun c=>[(10,.d (.str c))]) (fun _=>[]) (fun c=>Nm.valid c=true∧Nm.under n c=true∧Nm.under c z.aj=true∧∀ d∈bR z.aj z.ab,Nm.under n d=true→Nm.under c d=true) (fun c=>(Nm.labels c).length) n ⟨h1,UF n,h3,fun d _ h=>h⟩ ?_ ?_
 ·exact sZ
 rintro c ⟨k1,k2,k3,k4⟩ IH;refine I.head af Tryz.func155 2000 ?_;(conv=>whnf);by_cases h4:c=z.aj
 ·refine aW (by simpa using h4) ?_;refine gO Tryz.func155 ?_;subst h4;rw [UL V k4];rfl
 refine aV (by simpa using h4) ?_;have hr:c≠[46]:=fun e=>h4 (by rw [e] at k3 ⊢; exact (KQ k3).symm);have c4:=Dy z ⟨c,2⟩ (by omega) V.names k1 V.sorted;have c5:=KM c k1 hr;have t1:=uV k1 hr;have t2:=KR k1 hr;refine gO Tryz.func155 ?_
 with_reducible refine wk (c4) ?_
 rintro r ⟨i,-,rfl,-⟩;refine gO Tryz.func155 ?_;cases h5:z.ab.any (cE ⟨c,2⟩)
 ·refine aQ ?_;refine gO Tryz.func155 ?_;refine ao (c5) ?_;refine gO Tryz.func155 ?_;have aJ:∀ d∈bR z.aj z.ab,c≠d:=fun d hd e=>by
   have:=(EH hd).1;rw [← e,h5] at this;cases this
  refine I.back (IH (fC (Nm.labels c).tail) ⟨t1.1,UG k2 (UI k1 hr),EG k1 hr k3 h4,fun d hd hu=>EG k1 hr (k4 d hd hu) (aJ d hd)⟩ t2) ?_;exact sZ
 ·refine aY ?_;refine gO Tryz.func155 ?_;rw [UK V (UJ h5 h4) k2];rfl
end Go.Proofs.YtfmdaiojokniiaaGreatDoor.P
end
