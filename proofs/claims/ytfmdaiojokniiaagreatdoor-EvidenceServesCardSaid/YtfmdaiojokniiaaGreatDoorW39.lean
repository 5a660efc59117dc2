/- Several texts of mine, one behind the other. Conditions: as each says. -/
import Derived.Test.YtfmdaiojokniiaaGreatDoorW38
set_option linter.unusedVariables false
set_option linter.unusedSimpArgs false
section
namespace Go.Proofs.YtfmdaiojokniiaaGreatDoor.P
open Go Go.aw Go.RowKit
set_option maxRecDepth 100000
set_option maxHeartbeats 4000000
theorem JQ {ax:Nat→Prop} {w:World} {x y:DV} {vs:List Value} (h:gV ax w [x,y] vs):∃ u v,vs=[u,v]∧VD ax w x u∧VD ax w y v:=by
 obtain ⟨hl,hv⟩:=h;obtain ⟨u,v,rfl⟩:∃ u v,vs=[u,v]:=by
  match vs,hl with
  | [u,v],_=>exact ⟨u,v,rfl⟩
 exact ⟨u,v,rfl,hv 0 x u rfl rfl,hv 1 y v rfl rfl⟩
theorem Ta {w w':World} (h:Below w.heap.size w w'):Ext w w':=⟨h.os,h.tape,h.output,h.size,h.block⟩
theorem Tb (t:Text) (c:UInt8):au E 288 [.str t,.int .u8 c.toNat] (· = .int .i64 (Lib.indexByte t c)):=by
 unfold au;refine ⟨⟨_,Tryz.func288,rfl,by decide⟩,fun ax w vs _ _ hv=>?_⟩;obtain ⟨u,v,rfl,h1,h2⟩:=JQ hv;cases h1;cases h2;have:=Any.strings_IndexByte Tryz.S' ⟨t.toArray⟩ (c.toNat:Int) w;refine this.mono fun e w' ⟨h1,h2⟩=>⟨_,_,h1,rfl,?_,by rw [h2]; exact Ext.refl w⟩;rw [show (ByteArray.mk t.toArray).data.toList=t by simp,show ((c.toNat:Int)).toNat.toUInt8=c by simp];exact .int _ _
theorem D0:∀ (L:List Text),Lib.join L [46]=Nm.glue L
 | []=>rfl
 | [x]=>by simp [Lib.join,List.intercalate,Nm.glue]
 |x::y::t=>by
  have:=D0 (y::t);unfold Lib.join at this ⊢;rw [Nm.glue,← this];simp [List.intercalate]
theorem Tc (L:List Text) (hl:L.length≤1000) (hb:(Nm.glue L).length≤1000000):au E 339 [.sl (L.map .str),.str [46]] (· = .str (Nm.glue L)):=by
 unfold au;refine ⟨⟨_,Tryz.func339,rfl,by decide⟩,fun ax w vs _ _ hv=>?_⟩;obtain ⟨u,v,rfl,h1,h2⟩:=JQ hv;cases h2;have JR:(L.map fun x=>ByteArray.mk x.toArray).map (·.data.toList)=L:=by simp [Function.comp_def]
 have fin:∀ e w',(e=Ending.returned (.string ⟨(Lib.join ((L.map fun x=>ByteArray.mk x.toArray).map (·.data.toList)) (ByteArray.mk [46].toArray).data.toList).toArray⟩)∧Below w.heap.size w w')→∃ v r,e = .returned v∧r=DV.str (Nm.glue L)∧VD (fun b=>ax b) w' r v∧Ext w w':=fun e w' ⟨h1,h2⟩=>by
  refine ⟨_,_,h1,rfl,?_,Ta h2⟩;rw [JR,show (ByteArray.mk [46].toArray).data.toList=[46] by simp,D0];exact .str _
 generalize hD:L.map DV.str=D at h1;cases h1 with
 |slnil =>
  have hn:L=[]:=List.map_eq_nil_iff.1 hD;subst hn;exact (Any.strings_Join_none Tryz.zP Tryz.zQ none 0 ⟨#[46]⟩ w).mono fun e w' ⟨q1,q2⟩=>fin e w' ⟨q1,q2 ▸ Below.refl _ _⟩
 |ji a =>
  have hn:L=[]:=List.map_eq_nil_iff.1 hD;subst hn;exact (Any.strings_Join_none Tryz.zP Tryz.zQ (some a) 0 ⟨#[46]⟩ w).mono fun e w' ⟨q1,q2⟩=>fin e w' ⟨q1,q2 ▸ Below.refl _ _⟩
 |sl _ blk off cap sz f kQ bK hX hlen cT bH cd =>
  subst hD;by_cases hn:L=[]
  ·subst hn;exact (Any.strings_Join_none Tryz.zP Tryz.zQ (some ⟨blk,off,none⟩) cap ⟨#[46]⟩ w).mono fun e w' ⟨q1,q2⟩=>fin e w' ⟨q1,q2 ▸ Below.refl _ _⟩
  ·have sE:∀ (j:Nat) x,(L.map fun x=>ByteArray.mk x.toArray)[j]? = some x→w.cell? ⟨blk,off+j,none⟩=some (.string x):=fun j x hx=>by
    rw [List.getElem?_map] at hx;cases e:L[j]? with
    |none=>rw [e] at hx; cases hx
    |some t =>
     rw [e] at hx;cases hx;have e1:(L.map DV.str)[j]? = some (.str t):=by rw [List.getElem?_map,e]; rfl
     have tr:sz=1:=(hlen j _ e1).symm;have c1:=cT j 0 (.str t) (.str t) e1 rfl;have v1:=bH j 0 (.str t) (.str t) e1 rfl;rw [tr,Nat.mul_one,Nat.add_zero] at c1;rw [c1];generalize f j 0=u at v1;cases v1;rfl
   obtain ⟨t,r,rfl⟩:=List.exists_cons_of_ne_nil hn;have Td:blk<w.heap.size:=World.block_lt_of_cell? _ _ (sE 0 ⟨t.toArray⟩ rfl);have:=Any.strings_Join Tryz.zP Tryz.zQ blk off cap ((t::r).map fun x=>ByteArray.mk x.toArray) ⟨#[46]⟩ w sE Td (by simp at hl ⊢; omega) (by simpa using hX) (by rw [JR,show (ByteArray.mk [46].toArray).data.toList=[46] by simp,D0]; omega);rw [List.length_map] at this;rw [List.length_map];exact this.mono fun e w' h=>fin e w' h
theorem JS:∀ {L:List Text},(∀ t∈L,t.length≤100)→(Nm.glue L).length≤L.length*101
 | [],_=>by simp [Nm.glue]
 | [x],h=>by have:=h x (by simp); simp [Nm.glue]; omega
 |x::y::t,h=>by
  have h1:=h x (by simp);have h2:=JS (L:=y::t) fun u hu=>h u (List.mem_cons_of_mem _ hu);rw [Nm.glue];simp only [List.length_append,List.length_cons] at h2 ⊢;omega
theorem Te (L:List Text) (hl:L.length≤1000) (hb:∀ t∈L,t.length≤100):au E 296 [.sl (L.map .str)] (· = match mC L with | some t => .az [.str t,.int .i64 0] | none => .az [.str [],.int .i64 11]):=by
 have no:Nm.parts L=false→mC L=none:=fun e=>by rw [mC,e]; rfl
 have c2:=fun h=>Tc L hl h;refine eP Tryz.func296 ?_;by_cases h0:L=[]
 ·subst h0;have e:mC []=some [46]:=by decide
  rw [e];refine bg (by decide) ?_;refine gO Tryz.func296 ?_
  with_reducible rfl
 refine aW (by simpa using h0) ?_;refine gO Tryz.func296 ?_;refine aj (fun h1=>?_) (fun h1=>?_)
 ·have h1:=of_decide_eq_true h1
  rw [no (by
   cases e:Nm.parts L
   ·rfl
   ·have:=(rD.1 e).1;simp at h1
    omega)]
  refine gO Tryz.func296 ?_
  with_reducible rfl
 have Tf:L.length≤8:=by have:=of_decide_eq_false h1; simp at this; omega
 refine gO Tryz.func296 ?_;refine I.loop (κ:=Nat) (rg 2 4++rg 15 17) (fun k=>[(15,.d (.int .i64 k))]) (fun _=>[]) (fun k=>k≤L.length∧∀ i x,i<k→L[i]? = some x→gE i x=true) (fun k=>L.length - k) 0 ⟨Nat.zero_le _,fun i x h=>by omega⟩ ?_ ?_
 ·exact sZ
 rintro k ⟨hk,a7⟩ IH;refine I.head ag Tryz.func296 2000 ?_;(conv=>whnf);refine aj (fun h5=>?_) (fun h5=>?_)
 ·have ah:k<L.length:=by simpa using h5
  obtain ⟨x,hx⟩:=aU ah
  have bad:gE k x=false→mC L=none:=fun e=>no (by
   cases e2:Nm.parts L
   ·rfl
   ·have:=(rD.1 e2).2 k x hx
    rw [e] at this; cases this)
  have fR:gE k x=true→∀ i y,i<k+1→L[i]? = some y→gE i y=true:=fun e i y hi hy=>by
   rcases Nat.lt_or_eq_of_le (Nat.le_of_lt_succ hi) with h | h
   ·exact a7 i y h hy
   ·subst h; rw [hx] at hy; cases hy; exact e
  refine gO Tryz.func296 ?_;refine aT (e := .str x) (bu hx) rfl ?_;refine gO Tryz.func296 ?_;refine ar (CK x) ?_;refine gO Tryz.func296 ?_;cases rI:Nm.label x
  ·refine aY ?_;refine gO Tryz.func296 ?_;refine aj (fun h6=>?_) (fun h6=>?_)
   ·have h6:=of_decide_eq_true h6;refine gO Tryz.func296 ?_;refine aY ?_;refine gO Tryz.func296 ?_;rw [bad (by simp [gE,rI]; omega)]
   ·have h6:=of_decide_eq_false h6;refine gO Tryz.func296 ?_;by_cases h7:x=[42]
    ·refine aW (by simpa using h7) ?_;refine gO Tryz.func296 ?_;refine I.back (IH (k+1) ⟨by omega,fR (by simp [gE,h7]; omega)⟩ (by omega)) ?_;exact sZ
    ·refine bg (by simpa using h7) ?_;refine gO Tryz.func296 ?_;rw [bad (by simp [gE,rI,h7])]
  ·refine aN ?_;refine gO Tryz.func296 ?_;refine aN ?_;refine gO Tryz.func296 ?_;refine I.back (IH (k+1) ⟨by omega,fR (by simp [gE,rI])⟩ (by omega)) ?_;exact sZ
 ·have aK:k=L.length:=by simp at h5; omega
  subst aK;have hp:Nm.parts L=true:=rD.2 ⟨Tf,fun i x hx=>a7 i x (List.getElem?_eq_some_iff.1 hx).1 hx⟩;have sN:fu L=Nm.glue L:=by rw [fu,if_neg h0]
  have iu:=JS hb;have c2:=c2 (by omega);clear IH;unfold mC;rw [hp,sN,Bool.true_and];refine gO Tryz.func296 ?_;refine ar (c2) ?_;refine gO Tryz.func296 ?_;refine aj (fun h6=>?_) (fun h6=>?_)
  ·have h6:=of_decide_eq_true h6;refine gO Tryz.func296 ?_;rw [decide_eq_false (by omega)];rfl
  ·have h6:=of_decide_eq_false h6;refine gO Tryz.func296 ?_;rw [decide_eq_true (by omega)];rfl
theorem JT:∀ (t:Text),(∀ r,Nm.split t=[r]→Lib.indexByte t 46 = -1∧t=r)∧∀ x y r,Nm.split t=x::y::r→∃ n:Nat,Lib.indexByte t 46=n∧t.drop (n+1)=Nm.glue (y::r)∧n+1≤t.length
 | []=>by simp [Nm.split,Lib.indexByte]
 |c::t=>by
  obtain ⟨h1,h2⟩:=JT t;by_cases hc:c=46
  ·subst hc;have e:Nm.split (46::t)=[]::Nm.split t:=by simp [Nm.split]
   have e2:Lib.indexByte (46::t) 46=0:=by simp [Lib.indexByte]
   rw [e,e2];refine ⟨fun r hr=>?_,fun x y r hr=>?_⟩
   ·have:=Nm.lH t;simp at hr;exact absurd hr.2 this
   ·simp only [List.cons.injEq] at hr;refine ⟨0,rfl,?_,by simp⟩;rw [← hr.2,Nm.rz];rfl
  ·have e2:Lib.indexByte (c::t) 46=if Lib.indexByte t 46 = -1 then -1 else Lib.indexByte t 46+1:=by
    rw [Lib.indexByte,if_neg (by simpa using hc)];simp
   cases hs:Nm.split t with
   |nil=>exact absurd hs (Nm.lH t)
   |cons h r0 =>
    have e:Nm.split (c::t)=(c::h)::r0:=by simp [Nm.split,hc,hs]
    rw [e,e2];refine ⟨fun r hr=>?_,fun x y r hr=>?_⟩
    ·simp only [List.cons.injEq] at hr;obtain ⟨rfl,rfl⟩:=hr;obtain ⟨k1,k2⟩:=h1 h hs;rw [if_pos k1];exact ⟨rfl,by rw [k2]⟩
    ·simp only [List.cons.injEq] at hr;obtain ⟨rfl,rfl⟩:=hr;obtain ⟨n,k1,k2,k3⟩:=h2 h y r hs;rw [if_neg (by omega)];exact ⟨n+1,by omega,by simpa using k2,by simp; omega⟩
theorem JU (t:Text) (hv:Nm.valid t=true) (hr:t≠[46]):au E 234 [.str t] (· = .az [.str (fu (Nm.labels t).tail),.int .i64 0]):=by
 have hlen:=fD hv;have c1:=rH t (l7 (by omega));rw [hv] at c1;have c2:=Tb t 46;have kN:Nm.labels t=Nm.split t:=by rw [Nm.labels,if_neg hr]
 obtain ⟨h1,h2⟩:=JT t;rw [kN];refine eP Tryz.func234 ?_;refine ar (c1) ?_;refine gO Tryz.func234 ?_;refine aN ?_;refine gO Tryz.func234 ?_;refine aW (by simpa using hr) ?_;refine gO Tryz.func234 ?_;refine ar (c2) ?_;refine gO Tryz.func234 ?_;cases hs:Nm.split t with
 |nil=>exact absurd hs (Nm.lH t)
 |cons x r =>
  cases r with
  |nil =>
   obtain ⟨k1,k2⟩:=h1 x hs;refine aW (by rw [k1]; decide) ?_;refine gO Tryz.func234 ?_;rfl
  |cons y r =>
   obtain ⟨n,k1,k2,k3⟩:=h2 x y r hs;have hw:IntKind.i64.wrap (Lib.indexByte t 46+1)=((n+1:Nat):Int):=by rw [k1,wrap64 (by omega) (by omega)]; omega
   have hd:List.drop ((some (IntKind.i64.wrap (Lib.indexByte t 46+1))).getD 0).toNat (List.take ((none:Option Int).getD (t.length:Int)).toNat t)=fu (y::r):=by
    rw [hw]
    simpa [fu] using k2
   refine bg (by rw [k1]; simp) ?_;refine gO Tryz.func234 ?_;refine bp ⟨by rw [hw]; simp; omega,by rw [hw]; simp; omega,by simp⟩ ?_;(conv=>whnf);rw [hd];refine gO Tryz.func234 ?_;rfl
end Go.Proofs.YtfmdaiojokniiaaGreatDoor.P
end
section
namespace Go.Proofs.YtfmdaiojokniiaaGreatDoor.P
open Go Go.aw
set_option maxRecDepth 100000
set_option maxHeartbeats 4000000
theorem JV:Nm.labels [46]=[]:=rfl
theorem D1 {t:Text} (h:Nm.labels t=[]):t=[46]:=by rw [← xo t,h]; rfl
theorem JW {s t:Text} (h:Nm.labels s=Nm.labels t):s=t:=by rw [← xo s,h,xo]
theorem Tg {t:Text} (h:t≠[46]):Nm.labels t≠[]:=fun e=>h (D1 e)
theorem JX {t:Text} (hv:Nm.valid t=true) (hr:t≠[46]):t.length≤60∧Nm.parts (Nm.split t)=true:=by
 simpa [Nm.valid,hr] using hv
theorem um {t:Text} (hv:Nm.valid t=true) (hr:t≠[46]):Nm.valid (fu (Nm.labels t).tail)=true∧Nm.labels (fu (Nm.labels t).tail)=(Nm.labels t).tail:=by
 obtain ⟨h1,h2⟩:=JX hv hr;have hd:=Nm.GM t;have hg:=Nm.rz t;rw [Nm.labels,if_neg hr];generalize Nm.split t=L at *;cases L with
 |nil=>exact ⟨rfl,rfl⟩
 |cons x r =>
  cases r with
  |nil=>exact ⟨rfl,rfl⟩
  |cons y r =>
   have e:fu (y::r)=Nm.glue (y::r):=by simp [fu]
   have hs:Nm.split (Nm.glue (y::r))=y::r:=Nm.GN _ (by simp) fun u hu=>hd u (List.mem_cons_of_mem _ hu);obtain ⟨p1,p2⟩:=rD.1 h2;have hy:Nm.label y=true:=by simpa [gE] using p2 1 y rfl
   have aE:Nm.glue (y::r)≠[46]:=fun e=>by
    rw [e] at hs;have e2:Nm.split [46]=[[],[]]:=by decide
    rw [e2] at hs;cases hs;exact absurd hy (by decide)
   have hl:(Nm.glue (y::r)).length≤60:=by
    rw [← hg,Nm.glue] at h1;simp only [List.length_append,List.length_cons] at h1;omega
   show Nm.valid (fu (y::r))=true∧Nm.labels (fu (y::r))=y::r;rw [e];refine ⟨?_,by rw [Nm.labels,if_neg aE,hs]⟩
   have hp:Nm.parts (y::r)=true:=rD.2 ⟨by simp at p1 ⊢; omega,fun i u hu=>by
    have:=p2 (i+1) u (by simpa using hu);simp [gE] at this
    simp [gE,this]⟩
   simp [Nm.valid,aE,hs,hp,hl]
theorem Th (a:Text):Nm.under a a=true:=by simp [Nm.under]
theorem Ti {a b c:Text} (h:Nm.under a b=true) (k:Nm.under b c=true):Nm.under a c=true:=by
 simp only [Nm.under,decide_eq_true_eq] at *;exact k.trans h
theorem Tj {a b:Text} (h:Nm.under a b=true) (k:Nm.under b a=true):a=b:=by
 simp only [Nm.under,decide_eq_true_eq] at *;exact JW (k.eq_of_length (Nat.le_antisymm k.length_le h.length_le))
theorem JY {a:Text} (h:Nm.under [46] a=true):a=[46]:=by
 simp only [Nm.under,decide_eq_true_eq,JV,List.suffix_nil] at h;exact D1 h
theorem D2 {n d:Text} (hv:Nm.valid n=true) (hr:n≠[46]) (h:Nm.under n d=true) (aE:n≠d):Nm.under (fu (Nm.labels n).tail) d=true:=by
 simp only [Nm.under,decide_eq_true_eq] at *;rw [(um hv hr).2];cases e:Nm.labels n with
 |nil=>exact absurd (D1 e) hr
 |cons x r =>
  rw [e] at h;rcases List.suffix_cons_iff.1 h with k | k
  ·exact absurd (JW (e.trans k.symm)) aE
  ·exact k
theorem Tk {n:Text} (hv:Nm.valid n=true) (hr:n≠[46]):Nm.under n (fu (Nm.labels n).tail)=true:=by
 simp only [Nm.under,decide_eq_true_eq];rw [(um hv hr).2];exact List.tail_suffix _
theorem JZ {n:Text} (hv:Nm.valid n=true) (hr:n≠[46]):(Nm.labels (fu (Nm.labels n).tail)).length<(Nm.labels n).length:=by
 rw [(um hv hr).2,List.length_tail];have:=List.length_pos_iff.2 (Tg hr);omega
theorem Tl {z:aF} {c:Text} (h1:z.ae.any (cP ⟨c,2⟩)=true) (h2:c≠z.ai):c∈cx z.ai z.ae:=by
 obtain ⟨s,hs,h⟩:=List.any_eq_true.1 h1;simp only [cP,Bool.and_eq_true,beq_iff_eq] at h;unfold cx;exact List.mem_map.2 ⟨s,List.mem_filter.2 ⟨hs,by simp [ke,h.1,h.2,h2]⟩,h.1⟩
theorem D3 {z:aF} {c:Text} (h:c∈cx z.ai z.ae):z.ae.any (cP ⟨c,2⟩)=true∧c≠z.ai:=by
 obtain ⟨s,hs,rfl,hc⟩:=pU h;simp [ke] at hc;exact ⟨List.any_eq_true.2 ⟨s,hs,by simp [cP,hc.1]⟩,hc.2⟩
theorem Tm {z:aF} (V:gd z) {n c:Text} (h:c∈cx z.ai z.ae) (hu:Nm.under n c=true):kX z n=some c:=by
 unfold kX;cases e:(cx z.ai z.ae).find? fun d=>Nm.under n d with
 |none=>exact absurd hu (by simpa using List.find?_eq_none.1 e c h)
 |some d=>rw [V.gH d (List.mem_of_find?_eq_some e) c h n (by simpa using List.find?_some e) hu]
theorem Tn {z:aF} (V:gd z) {n:Text} (h:∀ d∈cx z.ai z.ae,Nm.under n d=true→Nm.under z.ai d=true):kX z n=none:=by
 unfold kX;rw [List.find?_eq_none];intro d hd hu;obtain ⟨s,hs,rfl,hc⟩:=pU hd;exact (D3 hd).2 (Tj (V.under s hs) (h _ hd (by simpa using hu)))
def D4 (z:aF) (n:Text):DV:=if Nm.valid n&&ep z then (if Nm.under n z.ai then (match kX z n with | some c => .az [.str c,.bool true,.int .i64 0] | none => .az [.str [],.bool false,.int .i64 0]) else .az [.str [],.bool false,.int .i64 20]) else .az [.str [],.bool false,.int .i64 1]
theorem To (z:aF) (n:Text) (hf:z.Fits) (hn:n.length≤maxLen):au E 155 [z.enc,.str n] (· = D4 z n):=by
 have c1:=fQ n hn;have c2:=rQ z hf;unfold D4;cases h1:Nm.valid n
 ·rw [h1] at c1;refine eP Tryz.func155 ?_;repeat' (first | with_reducible refine ar (c1) ?_ | with_reducible refine aR (c1) ?_ | with_reducible refine cY ?_ | with_reducible refine cN ?_ | with_reducible refine aj (fun _=>?_) (fun _=>?_) | refine gA Tryz.func155 ?_ | refine gB ?_ | with_reducible rfl)
  all_goals rfl
 cases h2:ep z
 ·rw [h1] at c1;rw [h2] at c2;refine eP Tryz.func155 ?_;repeat' (first | with_reducible refine ar (c1) ?_ | with_reducible refine aR (c1) ?_ | with_reducible refine ar (c2) ?_ | with_reducible refine aR (c2) ?_ | with_reducible refine cY ?_ | with_reducible refine cN ?_ | with_reducible refine aj (fun _=>?_) (fun _=>?_) | refine gA Tryz.func155 ?_ | refine gB ?_ | with_reducible rfl)
  all_goals rfl
 rw [h1] at c1;rw [h2] at c2;have V:=JD h2;have c3:=tO n z.ai hn (by have:=fD V.ai; exact l7 (by omega));rw [zi h1 V.ai,h1,V.ai] at c3;have hlen:=V.len;refine eP Tryz.func155 ?_;refine ar (c1) ?_;refine gO Tryz.func155 ?_;refine aN ?_;refine gO Tryz.func155 ?_;refine ar (c2) ?_;refine gO Tryz.func155 ?_;refine aN ?_;refine gO Tryz.func155 ?_;refine ar (c3) ?_;refine gO Tryz.func155 ?_;cases h3:Nm.under n z.ai
 ·refine aY ?_;refine gO Tryz.func155 ?_;rfl
 refine aN ?_;refine gO Tryz.func155 ?_;refine I.loop (κ:=Text) ([4,5,6,10,11,12]++rg 33 18) (fun c=>[(10,.d (.str c))]) (fun _=>[]) (fun c=>Nm.valid c=true∧Nm.under n c=true∧Nm.under c z.ai=true∧∀ d∈cx z.ai z.ae,Nm.under n d=true→Nm.under c d=true) (fun c=>(Nm.labels c).length) n ⟨h1,Th n,h3,fun d _ h=>h⟩ ?_ ?_
 ·exact sZ
 rintro c ⟨k1,k2,k3,k4⟩ IH;refine I.head ag Tryz.func155 2000 ?_;(conv=>whnf);by_cases h4:c=z.ai
 ·refine aW (by simpa using h4) ?_;refine gO Tryz.func155 ?_;subst h4;rw [Tn V k4];rfl
 refine bg (by simpa using h4) ?_;have hr:c≠[46]:=fun e=>h4 (by rw [e] at k3 ⊢; exact (JY k3).symm);have c4:=C4 z ⟨c,2⟩ (by omega) V.names k1 V.sorted;have c5:=JU c k1 hr;have t1:=um k1 hr;have t2:=JZ k1 hr;refine gO Tryz.func155 ?_
 with_reducible refine vG (c4) ?_
 rintro r ⟨i,-,rfl,-⟩;refine gO Tryz.func155 ?_;cases h5:z.ae.any (cP ⟨c,2⟩)
 ·refine aN ?_;refine gO Tryz.func155 ?_;refine ar (c5) ?_;refine gO Tryz.func155 ?_;have aE:∀ d∈cx z.ai z.ae,c≠d:=fun d hd e=>by
   have:=(D3 hd).1;rw [← e,h5] at this;cases this
  refine I.back (IH (fu (Nm.labels c).tail) ⟨t1.1,Ti k2 (Tk k1 hr),D2 k1 hr k3 h4,fun d hd hu=>D2 k1 hr (k4 d hd hu) (aE d hd)⟩ t2) ?_;exact sZ
 ·refine aY ?_;refine gO Tryz.func155 ?_;rw [Tm V (Tl h5 h4) k2];rfl
end Go.Proofs.YtfmdaiojokniiaaGreatDoor.P
end
