/- Several texts of mine, one behind the other. Conditions: as each says. -/
import Derived.Test.YtfmdaiojokniiaaGreatDoorV37
set_option linter.unusedVariables false
set_option linter.unusedSimpArgs false
section
namespace Go.Proofs.YtfmdaiojokniiaaGreatDoor.P
open Go Go.aw Go.RowKit
set_option maxRecDepth 100000
set_option maxHeartbeats 4000000
theorem K6 {ax:Nat→Prop} {w:World} {x y:DV} {vs:List Value} (h:iu ax w [x,y] vs):∃ u v,vs=[u,v]∧VD ax w x u∧VD ax w y v:=by
 obtain ⟨hl,hv⟩:=h;obtain ⟨u,v,rfl⟩:∃ u v,vs=[u,v]:=by
  match vs,hl with
  | [u,v],_=>exact ⟨u,v,rfl⟩
 exact ⟨u,v,rfl,hv 0 x u rfl rfl,hv 1 y v rfl rfl⟩
theorem UR {w w':World} (h:Below w.heap.size w w'):Ext w w':=⟨h.os,h.tape,h.output,h.size,h.block⟩
theorem US (t:Text) (c:UInt8):aq E 288 [.str t,.int .u8 c.toNat] (· = .int .i64 (Lib.indexByte t c)):=by
 unfold aq;refine ⟨⟨_,Tryz.func288,rfl,by decide⟩,fun ax w vs _ _ hv=>?_⟩;obtain ⟨u,v,rfl,h1,h2⟩:=K6 hv;cases h1;cases h2;have:=Any.strings_IndexByte Tryz.UQ ⟨t.toArray⟩ (c.toNat:Int) w;refine this.mono fun e w' ⟨h1,h2⟩=>⟨_,_,h1,rfl,?_,by rw [h2]; exact Ext.refl w⟩;rw [show (ByteArray.mk t.toArray).data.toList=t by simp,show ((c.toNat:Int)).toNat.toUInt8=c by simp];exact .int _ _
theorem E5:∀ (L:List Text),Lib.join L [46]=Nm.glue L
 | []=>rfl
 | [x]=>by simp [Lib.join,List.intercalate,Nm.glue]
 |x::y::t=>by
  have:=E5 (y::t);unfold Lib.join at this ⊢;rw [Nm.glue,← this];simp [List.intercalate]
theorem UT (L:List Text) (hl:L.length≤1000) (hb:(Nm.glue L).length≤1000000):aq E 339 [.sl (L.map .str),.str [46]] (· = .str (Nm.glue L)):=by
 unfold aq;refine ⟨⟨_,Tryz.func339,rfl,by decide⟩,fun ax w vs _ _ hv=>?_⟩;obtain ⟨u,v,rfl,h1,h2⟩:=K6 hv;cases h2;have mL:(L.map fun x=>ByteArray.mk x.toArray).map (·.data.toList)=L:=by simp [Function.comp_def]
 have fin:∀ e w',(e=Ending.returned (.string ⟨(Lib.join ((L.map fun x=>ByteArray.mk x.toArray).map (·.data.toList)) (ByteArray.mk [46].toArray).data.toList).toArray⟩)∧Below w.heap.size w w')→∃ v r,e = .returned v∧r=DV.str (Nm.glue L)∧VD (fun b=>ax b) w' r v∧Ext w w':=fun e w' ⟨h1,h2⟩=>by
  refine ⟨_,_,h1,rfl,?_,UR h2⟩;rw [mL,show (ByteArray.mk [46].toArray).data.toList=[46] by simp,E5];exact .str _
 generalize hD:L.map DV.str=D at h1;cases h1 with
 |slnil =>
  have hn:L=[]:=List.map_eq_nil_iff.1 hD;subst hn;exact (Any.strings_Join_none Tryz.AP Tryz.AQ none 0 ⟨#[46]⟩ w).mono fun e w' ⟨q1,q2⟩=>fin e w' ⟨q1,q2 ▸ Below.refl _ _⟩
 |jJ a =>
  have hn:L=[]:=List.map_eq_nil_iff.1 hD;subst hn;exact (Any.strings_Join_none Tryz.AP Tryz.AQ (some a) 0 ⟨#[46]⟩ w).mono fun e w' ⟨q1,q2⟩=>fin e w' ⟨q1,q2 ▸ Below.refl _ _⟩
 |sl _ blk off cap sz f lQ bQ iH hlen cZ bK bX =>
  subst hD;by_cases hn:L=[]
  ·subst hn;exact (Any.strings_Join_none Tryz.AP Tryz.AQ (some ⟨blk,off,none⟩) cap ⟨#[46]⟩ w).mono fun e w' ⟨q1,q2⟩=>fin e w' ⟨q1,q2 ▸ Below.refl _ _⟩
  ·have tD:∀ (j:Nat) x,(L.map fun x=>ByteArray.mk x.toArray)[j]? = some x→w.cell? ⟨blk,off+j,none⟩=some (.string x):=fun j x hx=>by
    rw [List.getElem?_map] at hx;cases e:L[j]? with
    |none=>rw [e] at hx; cases hx
    |some t =>
     rw [e] at hx;cases hx;have e1:(L.map DV.str)[j]? = some (.str t):=by rw [List.getElem?_map,e]; rfl
     have uq:sz=1:=(hlen j _ e1).symm;have c1:=cZ j 0 (.str t) (.str t) e1 rfl;have v1:=bK j 0 (.str t) (.str t) e1 rfl;rw [uq,Nat.mul_one,Nat.add_zero] at c1;rw [c1];generalize f j 0=u at v1;cases v1;rfl
   obtain ⟨t,r,rfl⟩:=List.exists_cons_of_ne_nil hn;have UU:blk<w.heap.size:=World.block_lt_of_cell? _ _ (tD 0 ⟨t.toArray⟩ rfl);have:=Any.strings_Join Tryz.AP Tryz.AQ blk off cap ((t::r).map fun x=>ByteArray.mk x.toArray) ⟨#[46]⟩ w tD UU (by simp at hl ⊢; omega) (by simpa using iH) (by rw [mL,show (ByteArray.mk [46].toArray).data.toList=[46] by simp,E5]; omega);rw [List.length_map] at this;rw [List.length_map];exact this.mono fun e w' h=>fin e w' h
theorem K7:∀ {L:List Text},(∀ t∈L,t.length≤100)→(Nm.glue L).length≤L.length*101
 | [],_=>by simp [Nm.glue]
 | [x],h=>by have:=h x (by simp); simp [Nm.glue]; omega
 |x::y::t,h=>by
  have h1:=h x (by simp);have h2:=K7 (L:=y::t) fun u hu=>h u (List.mem_cons_of_mem _ hu);rw [Nm.glue];simp only [List.length_append,List.length_cons] at h2 ⊢;omega
theorem UW (L:List Text) (hl:L.length≤1000) (hb:∀ t∈L,t.length≤100):aq E 296 [.sl (L.map .str)] (· = match nH L with | some t => .aD [.str t,.int .i64 0] | none => .aD [.str [],.int .i64 11]):=by
 have no:Nm.parts L=false→nH L=none:=fun e=>by rw [nH,e]; rfl
 have c2:=fun h=>UT L hl h;refine eP Tryz.func296 ?_;by_cases h0:L=[]
 ·subst h0;have e:nH []=some [46]:=by decide
  rw [e];refine bh (by decide) ?_;refine gO Tryz.func296 ?_
  with_reducible rfl
 refine aZ (by simpa using h0) ?_;refine gO Tryz.func296 ?_;refine ai (fun h1=>?_) (fun h1=>?_)
 ·have h1:=of_decide_eq_true h1
  rw [no (by
   cases e:Nm.parts L
   ·rfl
   ·have:=(pj.1 e).1;simp at h1
    omega)]
  refine gO Tryz.func296 ?_
  with_reducible rfl
 have UX:L.length≤8:=by have:=of_decide_eq_false h1; simp at this; omega
 refine gO Tryz.func296 ?_;refine I.loop (κ:=Nat) (rg 2 4++rg 15 17) (fun k=>[(15,.d (.int .i64 k))]) (fun _=>[]) (fun k=>k≤L.length∧∀ i x,i<k→L[i]? = some x→fF i x=true) (fun k=>L.length - k) 0 ⟨Nat.zero_le _,fun i x h=>by omega⟩ ?_ ?_
 ·exact sZ
 rintro k ⟨hk,aW⟩ IH;refine I.head af Tryz.func296 2000 ?_;(conv=>whnf);refine ai (fun h5=>?_) (fun h5=>?_)
 ·have aj:k<L.length:=by simpa using h5
  obtain ⟨x,hx⟩:=aL aj
  have bad:fF k x=false→nH L=none:=fun e=>no (by
   cases e2:Nm.parts L
   ·rfl
   ·have:=(pj.1 e2).2 k x hx
    rw [e] at this; cases this)
  have gq:fF k x=true→∀ i y,i<k+1→L[i]? = some y→fF i y=true:=fun e i y hi hy=>by
   rcases Nat.lt_or_eq_of_le (Nat.le_of_lt_succ hi) with h | h
   ·exact aW i y h hy
   ·subst h; rw [hx] at hy; cases hy; exact e
  refine gO Tryz.func296 ?_;refine aE (e := .str x) (aX hx) rfl ?_;refine gO Tryz.func296 ?_;refine ao (DB x) ?_;refine gO Tryz.func296 ?_;cases qL:Nm.label x
  ·refine aV ?_;refine gO Tryz.func296 ?_;refine ai (fun h6=>?_) (fun h6=>?_)
   ·have h6:=of_decide_eq_true h6;refine gO Tryz.func296 ?_;refine aV ?_;refine gO Tryz.func296 ?_;rw [bad (by simp [fF,qL]; omega)]
   ·have h6:=of_decide_eq_false h6;refine gO Tryz.func296 ?_;by_cases h7:x=[42]
    ·refine aZ (by simpa using h7) ?_;refine gO Tryz.func296 ?_;refine I.back (IH (k+1) ⟨by omega,gq (by simp [fF,h7]; omega)⟩ (by omega)) ?_;exact sZ
    ·refine bh (by simpa using h7) ?_;refine gO Tryz.func296 ?_;rw [bad (by simp [fF,qL,h7])]
  ·refine aQ ?_;refine gO Tryz.func296 ?_;refine aQ ?_;refine gO Tryz.func296 ?_;refine I.back (IH (k+1) ⟨by omega,gq (by simp [fF,qL])⟩ (by omega)) ?_;exact sZ
 ·have aC:k=L.length:=by simp at h5; omega
  subst aC;have hp:Nm.parts L=true:=pj.2 ⟨UX,fun i x hx=>aW i x (List.getElem?_eq_some_iff.1 hx).1 hx⟩;have tM:fI L=Nm.glue L:=by rw [fI,if_neg h0]
  have iT:=K7 hb;have c2:=c2 (by omega);clear IH;unfold nH;rw [hp,tM,Bool.true_and];refine gO Tryz.func296 ?_;refine ao (c2) ?_;refine gO Tryz.func296 ?_;refine ai (fun h6=>?_) (fun h6=>?_)
  ·have h6:=of_decide_eq_true h6;refine gO Tryz.func296 ?_;rw [decide_eq_false (by omega)];rfl
  ·have h6:=of_decide_eq_false h6;refine gO Tryz.func296 ?_;rw [decide_eq_true (by omega)];rfl
theorem K8:∀ (t:Text),(∀ r,Nm.split t=[r]→Lib.indexByte t 46 = -1∧t=r)∧∀ x y r,Nm.split t=x::y::r→∃ n:Nat,Lib.indexByte t 46=n∧t.drop (n+1)=Nm.glue (y::r)∧n+1≤t.length
 | []=>by simp [Nm.split,Lib.indexByte]
 |c::t=>by
  obtain ⟨h1,h2⟩:=K8 t;by_cases hc:c=46
  ·subst hc;have e:Nm.split (46::t)=[]::Nm.split t:=by simp [Nm.split]
   have e2:Lib.indexByte (46::t) 46=0:=by simp [Lib.indexByte]
   rw [e,e2];refine ⟨fun r hr=>?_,fun x y r hr=>?_⟩
   ·have:=Nm.mA t;simp at hr;exact absurd hr.2 this
   ·simp only [List.cons.injEq] at hr;refine ⟨0,rfl,?_,by simp⟩;rw [← hr.2,Nm.sy];rfl
  ·have e2:Lib.indexByte (c::t) 46=if Lib.indexByte t 46 = -1 then -1 else Lib.indexByte t 46+1:=by
    rw [Lib.indexByte,if_neg (by simpa using hc)];simp
   cases hs:Nm.split t with
   |nil=>exact absurd hs (Nm.mA t)
   |cons h r0 =>
    have e:Nm.split (c::t)=(c::h)::r0:=by simp [Nm.split,hc,hs]
    rw [e,e2];refine ⟨fun r hr=>?_,fun x y r hr=>?_⟩
    ·simp only [List.cons.injEq] at hr;obtain ⟨rfl,rfl⟩:=hr;obtain ⟨k1,k2⟩:=h1 h hs;rw [if_pos k1];exact ⟨rfl,by rw [k2]⟩
    ·simp only [List.cons.injEq] at hr;obtain ⟨rfl,rfl⟩:=hr;obtain ⟨n,k1,k2,k3⟩:=h2 h y r hs;rw [if_neg (by omega)];exact ⟨n+1,by omega,by simpa using k2,by simp; omega⟩
theorem K9 (t:Text) (hv:Nm.valid t=true) (hr:t≠[46]):aq E 234 [.str t] (· = .aD [.str (fI (Nm.labels t).tail),.int .i64 0]):=by
 have hlen:=eJ hv;have c1:=sJ t (lp (by omega));rw [hv] at c1;have c2:=US t 46;have lL:Nm.labels t=Nm.split t:=by rw [Nm.labels,if_neg hr]
 obtain ⟨h1,h2⟩:=K8 t;rw [lL];refine eP Tryz.func234 ?_;refine ao (c1) ?_;refine gO Tryz.func234 ?_;refine aQ ?_;refine gO Tryz.func234 ?_;refine aZ (by simpa using hr) ?_;refine gO Tryz.func234 ?_;refine ao (c2) ?_;refine gO Tryz.func234 ?_;cases hs:Nm.split t with
 |nil=>exact absurd hs (Nm.mA t)
 |cons x r =>
  cases r with
  |nil =>
   obtain ⟨k1,k2⟩:=h1 x hs;refine aZ (by rw [k1]; decide) ?_;refine gO Tryz.func234 ?_;rfl
  |cons y r =>
   obtain ⟨n,k1,k2,k3⟩:=h2 x y r hs;have hw:IntKind.i64.wrap (Lib.indexByte t 46+1)=((n+1:Nat):Int):=by rw [k1,wrap64 (by omega) (by omega)]; omega
   have hd:List.drop ((some (IntKind.i64.wrap (Lib.indexByte t 46+1))).getD 0).toNat (List.take ((none:Option Int).getD (t.length:Int)).toNat t)=fI (y::r):=by
    rw [hw]
    simpa [fI] using k2
   refine bh (by rw [k1]; simp) ?_;refine gO Tryz.func234 ?_;refine a8 ⟨by rw [hw]; simp; omega,by rw [hw]; simp; omega,by simp⟩ ?_;(conv=>whnf);rw [hd];refine gO Tryz.func234 ?_;rfl
end Go.Proofs.YtfmdaiojokniiaaGreatDoor.P
end
section
namespace Go.Proofs.YtfmdaiojokniiaaGreatDoor.P
open Go Go.aw
set_option maxRecDepth 100000
set_option maxHeartbeats 4000000
theorem La:Nm.labels [46]=[]:=rfl
theorem E6 {t:Text} (h:Nm.labels t=[]):t=[46]:=by rw [← yl t,h]; rfl
theorem Lb {s t:Text} (h:Nm.labels s=Nm.labels t):s=t:=by rw [← yl s,h,yl]
theorem UY {t:Text} (h:t≠[46]):Nm.labels t≠[]:=fun e=>h (E6 e)
theorem Lc {t:Text} (hv:Nm.valid t=true) (hr:t≠[46]):t.length≤60∧Nm.parts (Nm.split t)=true:=by
 simpa [Nm.valid,hr] using hv
theorem vv {t:Text} (hv:Nm.valid t=true) (hr:t≠[46]):Nm.valid (fI (Nm.labels t).tail)=true∧Nm.labels (fI (Nm.labels t).tail)=(Nm.labels t).tail:=by
 obtain ⟨h1,h2⟩:=Lc hv hr;have hd:=Nm.HN t;have hg:=Nm.sy t;rw [Nm.labels,if_neg hr];generalize Nm.split t=L at *;cases L with
 |nil=>exact ⟨rfl,rfl⟩
 |cons x r =>
  cases r with
  |nil=>exact ⟨rfl,rfl⟩
  |cons y r =>
   have e:fI (y::r)=Nm.glue (y::r):=by simp [fI]
   have hs:Nm.split (Nm.glue (y::r))=y::r:=Nm.HO _ (by simp) fun u hu=>hd u (List.mem_cons_of_mem _ hu);obtain ⟨p1,p2⟩:=pj.1 h2;have hy:Nm.label y=true:=by simpa [fF] using p2 1 y rfl
   have aJ:Nm.glue (y::r)≠[46]:=fun e=>by
    rw [e] at hs;have e2:Nm.split [46]=[[],[]]:=by decide
    rw [e2] at hs;cases hs;exact absurd hy (by decide)
   have hl:(Nm.glue (y::r)).length≤60:=by
    rw [← hg,Nm.glue] at h1;simp only [List.length_append,List.length_cons] at h1;omega
   show Nm.valid (fI (y::r))=true∧Nm.labels (fI (y::r))=y::r;rw [e];refine ⟨?_,by rw [Nm.labels,if_neg aJ,hs]⟩
   have hp:Nm.parts (y::r)=true:=pj.2 ⟨by simp at p1 ⊢; omega,fun i u hu=>by
    have:=p2 (i+1) u (by simpa using hu);simp [fF] at this
    simp [fF,this]⟩
   simp [Nm.valid,aJ,hs,hp,hl]
theorem UZ (a:Text):Nm.under a a=true:=by simp [Nm.under]
theorem U0 {a b c:Text} (h:Nm.under a b=true) (k:Nm.under b c=true):Nm.under a c=true:=by
 simp only [Nm.under,decide_eq_true_eq] at *;exact k.trans h
theorem U1 {a b:Text} (h:Nm.under a b=true) (k:Nm.under b a=true):a=b:=by
 simp only [Nm.under,decide_eq_true_eq] at *;exact Lb (k.eq_of_length (Nat.le_antisymm k.length_le h.length_le))
theorem Ld {a:Text} (h:Nm.under [46] a=true):a=[46]:=by
 simp only [Nm.under,decide_eq_true_eq,La,List.suffix_nil] at h;exact E6 h
theorem E7 {n d:Text} (hv:Nm.valid n=true) (hr:n≠[46]) (h:Nm.under n d=true) (aJ:n≠d):Nm.under (fI (Nm.labels n).tail) d=true:=by
 simp only [Nm.under,decide_eq_true_eq] at *;rw [(vv hv hr).2];cases e:Nm.labels n with
 |nil=>exact absurd (E6 e) hr
 |cons x r =>
  rw [e] at h;rcases List.suffix_cons_iff.1 h with k | k
  ·exact absurd (Lb (e.trans k.symm)) aJ
  ·exact k
theorem U2 {n:Text} (hv:Nm.valid n=true) (hr:n≠[46]):Nm.under n (fI (Nm.labels n).tail)=true:=by
 simp only [Nm.under,decide_eq_true_eq];rw [(vv hv hr).2];exact List.tail_suffix _
theorem Le {n:Text} (hv:Nm.valid n=true) (hr:n≠[46]):(Nm.labels (fI (Nm.labels n).tail)).length<(Nm.labels n).length:=by
 rw [(vv hv hr).2,List.length_tail];have:=List.length_pos_iff.2 (UY hr);omega
theorem U3 {z:aG} {c:Text} (h1:z.ab.any (cE ⟨c,2⟩)=true) (h2:c≠z.ah):c∈bV z.ah z.ab:=by
 obtain ⟨s,hs,h⟩:=List.any_eq_true.1 h1;simp only [cE,Bool.and_eq_true,beq_iff_eq] at h;unfold bV;exact List.mem_map.2 ⟨s,List.mem_filter.2 ⟨hs,by simp [gH,h.1,h.2,h2]⟩,h.1⟩
theorem E8 {z:aG} {c:Text} (h:c∈bV z.ah z.ab):z.ab.any (cE ⟨c,2⟩)=true∧c≠z.ah:=by
 obtain ⟨s,hs,rfl,hc⟩:=ou h;simp [gH] at hc;exact ⟨List.any_eq_true.2 ⟨s,hs,by simp [cE,hc.1]⟩,hc.2⟩
theorem U4 {z:aG} (V:gM z) {n c:Text} (h:c∈bV z.ah z.ab) (hu:Nm.under n c=true):lZ z n=some c:=by
 unfold lZ;cases e:(bV z.ah z.ab).find? fun d=>Nm.under n d with
 |none=>exact absurd hu (by simpa using List.find?_eq_none.1 e c h)
 |some d=>rw [V.cq d (List.mem_of_find?_eq_some e) c h n (by simpa using List.find?_some e) hu]
theorem U5 {z:aG} (V:gM z) {n:Text} (h:∀ d∈bV z.ah z.ab,Nm.under n d=true→Nm.under z.ah d=true):lZ z n=none:=by
 unfold lZ;rw [List.find?_eq_none];intro d hd hu;obtain ⟨s,hs,rfl,hc⟩:=ou hd;exact (E8 hd).2 (U1 (V.under s hs) (h _ hd (by simpa using hu)))
def E9 (z:aG) (n:Text):DV:=if Nm.valid n&&dE z then (if Nm.under n z.ah then (match lZ z n with | some c => .aD [.str c,.bool true,.int .i64 0] | none => .aD [.str [],.bool false,.int .i64 0]) else .aD [.str [],.bool false,.int .i64 20]) else .aD [.str [],.bool false,.int .i64 1]
theorem U6 (z:aG) (n:Text) (hf:z.Fits) (hn:n.length≤maxLen):aq E 155 [z.enc,.str n] (· = E9 z n):=by
 have c1:=gm n hn;have c2:=sS z hf;unfold E9;cases h1:Nm.valid n
 ·rw [h1] at c1;refine eP Tryz.func155 ?_;repeat' (first | with_reducible refine ao (c1) ?_ | with_reducible refine ay (c1) ?_ | with_reducible refine cY ?_ | with_reducible refine cN ?_ | with_reducible refine ai (fun _=>?_) (fun _=>?_) | refine gA Tryz.func155 ?_ | refine gB ?_ | with_reducible rfl)
  all_goals rfl
 cases h2:dE z
 ·rw [h1] at c1;rw [h2] at c2;refine eP Tryz.func155 ?_;repeat' (first | with_reducible refine ao (c1) ?_ | with_reducible refine ay (c1) ?_ | with_reducible refine ao (c2) ?_ | with_reducible refine ay (c2) ?_ | with_reducible refine cY ?_ | with_reducible refine cN ?_ | with_reducible refine ai (fun _=>?_) (fun _=>?_) | refine gA Tryz.func155 ?_ | refine gB ?_ | with_reducible rfl)
  all_goals rfl
 rw [h1] at c1;rw [h2] at c2;have V:=KS h2;have c3:=uK n z.ah hn (by have:=eJ V.ah; exact lp (by omega));rw [Am h1 V.ah,h1,V.ah] at c3;have hlen:=V.len;refine eP Tryz.func155 ?_;refine ao (c1) ?_;refine gO Tryz.func155 ?_;refine aQ ?_;refine gO Tryz.func155 ?_;refine ao (c2) ?_;refine gO Tryz.func155 ?_;refine aQ ?_;refine gO Tryz.func155 ?_;refine ao (c3) ?_;refine gO Tryz.func155 ?_;cases h3:Nm.under n z.ah
 ·refine aV ?_;refine gO Tryz.func155 ?_;rfl
 refine aQ ?_;refine gO Tryz.func155 ?_;refine I.loop (κ:=Text) ([4,5,6,10,11,12]++rg 33 18) (fun c=>[(10,.d (.str c))]) (fun _=>[]) (fun c=>Nm.valid c=true∧Nm.under n c=true∧Nm.under c z.ah=true∧∀ d∈bV z.ah z.ab,Nm.under n d=true→Nm.under c d=true) (fun c=>(Nm.labels c).length) n ⟨h1,UZ n,h3,fun d _ h=>h⟩ ?_ ?_
 ·exact sZ
 rintro c ⟨k1,k2,k3,k4⟩ IH;refine I.head af Tryz.func155 2000 ?_;(conv=>whnf);by_cases h4:c=z.ah
 ·refine aZ (by simpa using h4) ?_;refine gO Tryz.func155 ?_;subst h4;rw [U5 V k4];rfl
 refine bh (by simpa using h4) ?_;have hr:c≠[46]:=fun e=>h4 (by rw [e] at k3 ⊢; exact (Ld k3).symm);have c4:=D1 z ⟨c,2⟩ (by omega) V.names k1 V.sorted;have c5:=K9 c k1 hr;have t1:=vv k1 hr;have t2:=Le k1 hr;refine gO Tryz.func155 ?_
 with_reducible refine wL (c4) ?_
 rintro r ⟨i,-,rfl,-⟩;refine gO Tryz.func155 ?_;cases h5:z.ab.any (cE ⟨c,2⟩)
 ·refine aQ ?_;refine gO Tryz.func155 ?_;refine ao (c5) ?_;refine gO Tryz.func155 ?_;have aJ:∀ d∈bV z.ah z.ab,c≠d:=fun d hd e=>by
   have:=(E8 hd).1;rw [← e,h5] at this;cases this
  refine I.back (IH (fI (Nm.labels c).tail) ⟨t1.1,U0 k2 (U2 k1 hr),E7 k1 hr k3 h4,fun d hd hu=>E7 k1 hr (k4 d hd hu) (aJ d hd)⟩ t2) ?_;exact sZ
 ·refine aV ?_;refine gO Tryz.func155 ?_;rw [U4 V (U3 h5 h4) k2];rfl
end Go.Proofs.YtfmdaiojokniiaaGreatDoor.P
end
