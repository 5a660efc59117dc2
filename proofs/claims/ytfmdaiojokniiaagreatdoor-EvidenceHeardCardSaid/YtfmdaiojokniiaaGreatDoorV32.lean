/- Several texts of mine, one behind the other. Conditions: as each says. -/
import Derived.Test.YtfmdaiojokniiaaGreatDoorV29
import Derived.Test.YtfmdaiojokniiaaGreatDoorV30
set_option linter.unusedVariables false
set_option linter.unusedSimpArgs false
section
section
namespace Go.Proofs.YtfmdaiojokniiaaGreatDoor.P
open Go Go.aw
set_option maxRecDepth 100000
set_option maxHeartbeats 4000000
end Go.Proofs.YtfmdaiojokniiaaGreatDoor.P
end
section
namespace Go.Proofs.YtfmdaiojokniiaaGreatDoor.P
open Go Go.aw
set_option maxRecDepth 100000
set_option maxHeartbeats 4000000
def nE (c:aS):Bool:=uP c.az && !(decide ((c.az.ah.length:Int)>100))
def yc (h:bJ):Bool:=(h.aB.take 21).all nE&&(h.aA.take 71).all kc&&vi h.aB.length h.aA.length h.hints.length h.anchor.data.length
theorem Tv (h:bJ):aq E 11 [h.enc] (· = .bool (yc h)):=by
 obtain ⟨aA,aB,anchor,hints,bS,fin⟩:=h;unfold yc;simp only;show aq E _ [DV.agg [.sl (aA.map Host.enc),.sl (aB.map aS.enc),.str anchor.name,.int .i64 anchor.type,.int .i64 anchor.cD,.sl (anchor.data.map Datum.enc),.sl (hints.map (.int .i64)),.int .i64 bS,.int .i64 fin]] _;refine eP Tryz.func11 ?_;refine I.loop (κ:=Nat) ([2,3]++rg 5 30) (fun k=>[(3,.d (.int .i64 k))]) (fun _=>[]) (fun k=>k≤aB.length∧k≤21∧(aB.take k).all nE=true) (fun k=>aB.length - k) 0 ⟨Nat.zero_le _,by omega,rfl⟩ ?_ ?_
 ·exact sZ
 intro k hk IH;refine I.head af Tryz.func11 2000 ?_;(conv=>whnf);have np:=hk.2.1;refine ai (fun h5=>?_) (fun h5=>?_)
 ·have aj:k<aB.length:=by simpa using h5
  refine gO Tryz.func11 ?_;refine ai (fun h6=>?_) (fun h6=>?_)
  ·have IX:k≤20:=by have:=of_decide_eq_true h6; omega
   obtain ⟨x,hx⟩:=aL aj;refine gO Tryz.func11 ?_;refine aE (e:=x.enc) (aX hx) rfl ?_;refine gO Tryz.func11 ?_
   with_reducible refine ao (Qo x.az) ?_
   refine gO Tryz.func11 ?_;cases hz:uP x.az
   ·have jq:nE x=false:=by rw [nE,hz]; rfl
    refine aV ?_;refine gO Tryz.func11 ?_;refine aV ?_;refine gO Tryz.func11 ?_;rw [eX (k:=k) (by rw [List.getElem?_take,if_pos (by omega)]; exact hx) jq,Bool.false_and,Bool.false_and]
   ·refine aQ ?_;refine gO Tryz.func11 ?_;refine aE (e:=x.enc) (aX hx) rfl ?_;refine gO Tryz.func11 ?_;refine ai (fun h7=>?_) (fun h7=>?_)
    ·have jq:nE x=false:=by rw [nE,hz,h7]; rfl
     refine gO Tryz.func11 ?_;rw [eX (k:=k) (by rw [List.getElem?_take,if_pos (by omega)]; exact hx) jq,Bool.false_and,Bool.false_and]
    ·have jq:nE x=true:=by rw [nE,hz,h7]; rfl
     refine gO Tryz.func11 ?_;refine I.back (IH (k+1) ⟨by omega,by omega,fm hk.2.2 hx jq⟩ (by omega)) ?_;exact sZ
  ·have Tx:k=21:=by have:=of_decide_eq_false h6; omega
   have fP:(aB.take 21).all nE=true:=by rw [← Tx]; exact hk.2.2
   rw [fP,Bool.true_and];refine gO Tryz.func11 ?_;refine I.loop (κ:=Nat) ([2,4]++rg 35 19) (fun k=>[(4,.d (.int .i64 k))]) (fun _=>[]) (fun k=>k≤aA.length∧k≤71∧(aA.take k).all kc=true) (fun k=>aA.length - k) 0 ⟨Nat.zero_le _,by omega,rfl⟩ ?_ ?_
   ·exact sZ
   intro j hj JH;refine I.head af Tryz.func11 2000 ?_;(conv=>whnf);have Ty:=hj.2.1;refine ai (fun g5=>?_) (fun g5=>?_)
   ·have aj:j<aA.length:=by simpa using g5
    refine gO Tryz.func11 ?_;refine ai (fun g6=>?_) (fun g6=>?_)
    ·have Tz:j≤70:=by have:=of_decide_eq_true g6; omega
     obtain ⟨x,hx⟩:=aL aj;refine gO Tryz.func11 ?_;refine aE (e:=x.enc) (aX hx) rfl ?_;refine gO Tryz.func11 ?_;refine ai (fun g7=>?_) (fun g7=>?_)
     ·have hz:kc x=false:=by rw [kc,g7]; rfl
      refine gO Tryz.func11 ?_;rw [eX (k:=j) (by rw [List.getElem?_take,if_pos (by omega)]; exact hx) hz,Bool.false_and]
     ·have hz:kc x=true:=by rw [kc,g7]; rfl
      refine gO Tryz.func11 ?_;refine I.back (JH (j+1) ⟨by omega,by omega,fm hj.2.2 hx hz⟩ (by omega)) ?_;exact sZ
    ·have EO:j=71:=by have:=of_decide_eq_false g6; omega
     have aW:(aA.take 71).all kc=true:=by rw [← EO]; exact hj.2.2
     rw [aW];refine gO Tryz.func11 ?_;clear IH JH;repeat' (first | with_reducible refine cY ?_ | with_reducible refine cN ?_ | with_reducible refine ai (fun _=>?_) (fun _=>?_) | refine gA Tryz.func11 ?_ | refine gB ?_ | with_reducible rfl)
     all_goals
      clear aW fP hk hj;simp_all [vi];try (first | omega | (rw [Bool.eq_iff_iff]; simp; omega))
   ·have aC:aA.length≤j:=by simpa using g5
    have aW:(aA.take 71).all kc=true:=by
     have h1:=mE hj.2.2 aC;rw [List.all_eq_true] at h1 ⊢;exact fun y hy=>h1 y (List.mem_of_mem_take hy)
    rw [aW];refine gO Tryz.func11 ?_;refine aQ ?_;refine gO Tryz.func11 ?_;clear IH JH;repeat' (first | with_reducible refine cY ?_ | with_reducible refine cN ?_ | with_reducible refine ai (fun _=>?_) (fun _=>?_) | refine gA Tryz.func11 ?_ | refine gB ?_ | with_reducible rfl)
    all_goals
     clear aW fP hk hj;simp_all [vi];try (first | omega | (rw [Bool.eq_iff_iff]; simp; omega))
 ·have aC:aB.length≤k:=by simpa using h5
  have fP:(aB.take 21).all nE=true:=by
   have h1:=mE hk.2.2 aC;rw [List.all_eq_true] at h1 ⊢;exact fun y hy=>h1 y (List.mem_of_mem_take hy)
  rw [fP,Bool.true_and];refine gO Tryz.func11 ?_;refine aQ ?_;refine gO Tryz.func11 ?_;refine I.loop (κ:=Nat) ([2,4]++rg 35 19) (fun k=>[(4,.d (.int .i64 k))]) (fun _=>[]) (fun k=>k≤aA.length∧k≤71∧(aA.take k).all kc=true) (fun k=>aA.length - k) 0 ⟨Nat.zero_le _,by omega,rfl⟩ ?_ ?_
  ·exact sZ
  intro j hj JH;refine I.head af Tryz.func11 2000 ?_;(conv=>whnf);have Ty:=hj.2.1;refine ai (fun g5=>?_) (fun g5=>?_)
  ·have aj:j<aA.length:=by simpa using g5
   refine gO Tryz.func11 ?_;refine ai (fun g6=>?_) (fun g6=>?_)
   ·have Tz:j≤70:=by have:=of_decide_eq_true g6; omega
    obtain ⟨x,hx⟩:=aL aj;refine gO Tryz.func11 ?_;refine aE (e:=x.enc) (aX hx) rfl ?_;refine gO Tryz.func11 ?_;refine ai (fun g7=>?_) (fun g7=>?_)
    ·have hz:kc x=false:=by rw [kc,g7]; rfl
     refine gO Tryz.func11 ?_;rw [eX (k:=j) (by rw [List.getElem?_take,if_pos (by omega)]; exact hx) hz,Bool.false_and]
    ·have hz:kc x=true:=by rw [kc,g7]; rfl
     refine gO Tryz.func11 ?_;refine I.back (JH (j+1) ⟨by omega,by omega,fm hj.2.2 hx hz⟩ (by omega)) ?_;exact sZ
   ·have EO:j=71:=by have:=of_decide_eq_false g6; omega
    have aW:(aA.take 71).all kc=true:=by rw [← EO]; exact hj.2.2
    rw [aW];refine gO Tryz.func11 ?_;clear IH JH;repeat' (first | with_reducible refine cY ?_ | with_reducible refine cN ?_ | with_reducible refine ai (fun _=>?_) (fun _=>?_) | refine gA Tryz.func11 ?_ | refine gB ?_ | with_reducible rfl)
    all_goals
     clear aW fP hk hj;simp_all [vi];try (first | omega | (rw [Bool.eq_iff_iff]; simp; omega))
  ·have aC:aA.length≤j:=by simpa using g5
   have aW:(aA.take 71).all kc=true:=by
    have h1:=mE hj.2.2 aC;rw [List.all_eq_true] at h1 ⊢;exact fun y hy=>h1 y (List.mem_of_mem_take hy)
   rw [aW];refine gO Tryz.func11 ?_;refine aQ ?_;refine gO Tryz.func11 ?_;clear IH JH;repeat' (first | with_reducible refine cY ?_ | with_reducible refine cN ?_ | with_reducible refine ai (fun _=>?_) (fun _=>?_) | refine gA Tryz.func11 ?_ | refine gB ?_ | with_reducible rfl)
   all_goals
    clear aW fP hk hj;simp_all [vi];try (first | omega | (rw [Bool.eq_iff_iff]; simp; omega))
end Go.Proofs.YtfmdaiojokniiaaGreatDoor.P
end
end
section
namespace Go.Proofs.YtfmdaiojokniiaaGreatDoor.P
open Go Go.aw
set_option maxRecDepth 100000
set_option maxHeartbeats 4000000
abbrev nF:=Int × Int × Text
@[reducible] def nF.en (p : nF) : DV := .agg [.int .i64 p.1, .int .i64 p.2.1, .str p.2.2]
theorem Kv (a b:nF):dY (nF.en a) (nF.en b)=decide (a=b):=by
 show ((a.1==b.1)&&((a.2.1==b.2.1)&&((a.2.2==b.2.2)&&true)))=_;rw [Bool.eq_iff_iff];simp [Prod.ext_iff]
theorem Kw {es:List (DV × DV)} (h:lR nF.en es):∀ p∈es,cW E.T (TK.struct [(0,3),(1,3),(2,9)]) p.1:=fun p hp=>by
 obtain ⟨a,e⟩:=h p hp;rw [e];exact ⟨_,rfl,rfl,⟨_,rfl,_,rfl⟩,rfl,⟨_,rfl,_,rfl⟩,rfl,⟨_,rfl,_,rfl⟩,trivial⟩
def Claim.key (c:Claim):nF:=(c.host,c.time,c.az.ah)
def yd (n:Nat) (fin t:Int) (S:List nF) (c:Claim):Bool:=oC n ⟨c.host,c.az⟩&&decide (t≤c.time)&&decide (c.time<fin)&&decide (c.key ∉ S)
def ra (n:Nat) (fin:Int):Int→List nF→List Claim→Bool
 |_,_,[]=>true
 |t,S,c::l=>yd n fin t S c&&ra n fin c.time (S++[c.key]) l
def vt (h:bJ) (l:List Claim):Bool:=decide (l.length≤4000)&&ra h.aA.length h.fin 0 [] l
def ji (l:List Claim) (k:Nat):Int:=match bT l k with
 |none=>0
 |some q=>q.time
theorem TA {n:Nat} {fin:Int} {l:List Claim} {k:Nat} {x:Claim} (hx:l[k]? = some x):ra n fin (ji l k) ((l.take k).map Claim.key) (l.drop k)=(yd n fin (ji l k) ((l.take k).map Claim.key) x&&ra n fin (ji l (k+1)) ((l.take (k+1)).map Claim.key) (l.drop (k+1))):=by
 obtain ⟨hk,e⟩:=List.getElem?_eq_some_iff.1 hx;have e2:ji l (k+1)=x.time:=by simp [ji,bT,hx]
 rw [List.drop_eq_getElem_cons hk,e,ra,cI hx,List.map_append,e2];rfl
def pO.Fits (l:List Claim):Prop:=l.length≤maxLen∧∀ c∈l,c.az.Fits
theorem TB (z:aG) (hf:z.Fits):aq E 118 [z.enc] (· = .bool (ke z)):=by
 have c1:=gm z.ah hf.ah;have e2:z.ab.isEmpty=(((z.ab.map Signed.enc).length:Int)==0):=by
  rw [Bool.eq_iff_iff];simp [List.isEmpty_iff]
 unfold ke;rw [e2];cases h1:Nm.valid z.ah
 ·rw [h1] at c1;refine eP Tryz.func118 ?_;repeat' (first | with_reducible refine ao (c1) ?_ | with_reducible refine ay (c1) ?_ | with_reducible refine cY ?_ | with_reducible refine cN ?_ | with_reducible refine ai (fun _=>?_) (fun _=>?_) | refine gA Tryz.func118 ?_ | refine gB ?_ | with_reducible rfl)
  all_goals simp_all
 rw [h1] at c1;rw [Jf h1];have h2:=Nm.Ij _ h1;obtain ⟨ah,l⟩:=z;simp only at c1 h2 ⊢;cases ah with
 |nil=>simp at h2
 |cons c r =>
  show aq E _ [DV.agg [.str (c::r),.sl (l.map Signed.enc)]] _;have e:((c.toNat:Int) != 42) = !(c==42):=by
   rw [Bool.eq_iff_iff];simp only [bne_iff_ne,ne_eq,Bool.not_eq_true',beq_eq_false_iff_ne];exact not_congr ⟨fun h=>UInt8.toNat_inj.1 (Int.ofNat.inj h),fun h=>h ▸ rfl⟩
  refine eP Tryz.func118 ?_;repeat' (first | with_reducible refine ao (c1) ?_ | with_reducible refine ay (c1) ?_ | with_reducible refine cY ?_ | with_reducible refine cN ?_ | with_reducible refine ai (fun _=>?_) (fun _=>?_) | refine gA Tryz.func118 ?_ | refine gB ?_ | with_reducible rfl)
  all_goals try (simp_all; done)
  refine jt c (by decide) rfl ?_;refine gO Tryz.func118 ?_;rw [e];refine congrArg DV.bool ?_;simp_all [Nm.gZ]
end Go.Proofs.YtfmdaiojokniiaaGreatDoor.P
end
