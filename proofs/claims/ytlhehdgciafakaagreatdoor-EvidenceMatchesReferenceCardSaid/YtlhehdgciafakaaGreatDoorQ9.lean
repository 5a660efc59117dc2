/- Lemmas of mine. Conditions: as stated. -/
import Derived.Test.YtlhehdgciafakaaGreatDoorQ8
import Derived.Lib.Bytealg
set_option linter.unusedVariables false
set_option linter.unusedSimpArgs false
open Bool renaming true_and->aja,false_and->ald,and_eq_true->ai2,not_eq_true->ak5,false_eq_true->ah0,and_true->alr,not_false->ali,or_eq_true->ajX,and_assoc->alX
open Int renaming toNat_natCast->ai0,lt_or_eq_of_le->alO,toNat->ak2,le_of_lt->akI
open List renaming mem_of_getElem?->aiQ,length_map->aiO,drop_of_length_le->aje,getElem?_map->ahy,take_of_length_le->ajq,getElem?_of_mem->aiN,getElem?_append_left->ahT,drop_eq_getElem_cons->ajf,replicate->ahC,map_set->alM,mem_cons_of_mem->aip,mem_cons->ai3,any_eq_true->alN,length_take->ah1,mem_cons_self->aio,foldl_append->alH,eq_nil_or_concat->alP,concat_eq_append->alQ,replicate_zero->alR,append_nil->aj0,cons_prefix_cons->alS,mem_append->aif,findIdx?_eq_some_iff_getElem->alT,findIdx?_eq_none_iff->alU,takeWhile_prefix->alV,append_assoc->aiK,replicate_succ->aiL,getElem?_append_right->aiH,getElem?_eq_none->aht,take_length->akR,foldl_cons->aiD,takeWhile_cons->alW,getElem?_drop->ai5,getLast?_eq_getElem?->alm,getElem?_cons_succ->ajO,getElem?_eq_some_iff->akz
open Nat renaming zero_le->ai4,lt_or_ge->ahs,eq_zero_or_pos->alL,lt_trichotomy->ajV
open Option renaming getD_none->aiZ,getD_some->ah8,map_eq_some_iff->ahF
section
namespace Go.Proofs.YtlhehdgciafakaaGreatDoor.P
open Go Go.az
set_option maxRecDepth 100000
set_option maxHeartbeats 4000000
def nf(t:Text):Bool:=match Nm.labels t with
 |[]=>false
 |x::_=>x==[42]
theorem Eo(t:Text)(ht:t.length<=1000):aq E 156 [.str t] (· = .bool (nf t)):=by
 unfold nf;refine eP F156.h ?_
 with_reducible refine ao (tu _ ht) ?_
 refine gC ?_;cases hl:Nm.labels t with
 |nil =>
  refine aP sP (gC ?_)
  with_reducible rfl
 |cons x l =>
  refine aN sP (gC ?_);refine fI (.str x) dC rfl rfl (gC ?_)
  with_reducible rfl
def cmpL:List Text->List Text->Int
 |[],[]=>0
 |[],_::_ => -1
 |_::_,[]=>1
 |x::l,y::m=>if Op.bytesLess x y then -1 else if x==y then cmpL l m else 1
def bH(a b:Text):Int:=cmpL (Nm.labels a).reverse (Nm.labels b).reverse
theorem rev_at{α:Type}{l:List α}{k:Nat}(hk:k<l.length):∃ x,l[l.length-(k+1)]?=some x/\l.reverse.drop k=x::l.reverse.drop (k+1):=by
 have h1:l.length-(k+1)<l.length:=by omega
 refine⟨l[l.length-(k+1)],by simp[h1],?_⟩;rw[ajf (zD hk)]
 congr 1
 simp only[List.getElem_reverse]
 congr 1
 omega
theorem Ep(a b:Text)(ha:a.length<=1000)(hb:b.length<=1000):aq E 163 [.str a,.str b] (· = .int .i64 (bH a b)):=by
 have vg:=D' a;have pN:=D' b;unfold bH;refine eP F163.h ?_
 with_reducible refine ao (tu _ ha) ?_
 refine gC ?_
 with_reducible refine ao (tu _ hb) ?_
 refine gC ?_;generalize Nm.labels a=l at *;generalize Nm.labels b=m at *;refine I.lP l.length ([4,7,8,9]++rg 14 32) (fun k=>[(7,.d (.int .i64 (k+1)))]) (fun _=>[]) (fun k=>k<=l.length/\k<=m.length/\cmpL l.reverse m.reverse=cmpL (l.reverse.drop k) (m.reverse.drop k)) ⟨ai4 _,ai4 _,rfl⟩ ?_ ?_
 ·exact sZ
 ·intro k hk IH;refine zA ?_ ?_<;>intro h1
  ·refine gC ?_;apply ah<;>intro h2
   ·have sU:k<l.length:=by simp at h1;omega
    have xk:k<m.length:=by simp at h2;omega
    obtain⟨x,hx,IW⟩:=rev_at sU;obtain⟨y,hy,IX⟩:=rev_at xk;have zh:IntKind.i64.wrap ((l.length:Int)-(k+1))=((l.length-(k+1):Nat):Int):=by rw[wrap64 oM oM];omega
    have dL:IntKind.i64.wrap ((m.length:Int)-(k+1))=((m.length-(k+1):Nat):Int):=by rw[wrap64 oM oM];omega
    have hc:=hk.2.2;rw[IW,IX]at hc;refine gC ?_;simp only[aiO];rw[zh];refine fI (.str x) oM (mo hx) rfl (gC ?_);simp only[aiO];rw[dL];refine fI (.str y) oM (mo hy) rfl (gC ?_);apply ah<;>intro h3
    ·refine gC ?_;rw[hc,cmpL,if_pos h3]
    ·refine gC ?_;apply ah<;>intro h4
     ·refine gC ?_;rw[hc,cmpL,if_neg (by rw[h3];decide),if_neg (by simp[h3]at h4;simpa using h4)]
     ·refine gC ?_;refine I.back (IH (k+1) ⟨by omega,by omega,by rw[hc,cmpL,if_neg (by rw[h3];decide),if_pos (by simpa [h3]using h4)]⟩ oM) ?_;exact sZ
   ·have sU:k<l.length:=by simp at h1;omega
    have xk:k=m.length:=by simp at h2;omega
    obtain⟨x,hx,IW⟩:=rev_at sU;have hc:=hk.2.2;rw[IW,aje (l:=m.reverse) (by simp;omega),cmpL]at hc;refine gC ?_;refine aP (by simp;omega) ?_;refine gC ?_;refine aN (by simp;omega) ?_;refine gC ?_;rw[hc]
  ·have sU:k=l.length:=by simp at h1;omega
   have hc:=hk.2.2;rw[aje (l:=l.reverse) (by simp;omega)]at hc;refine gC ?_;refine vF ?_;apply ah<;>intro h2
   ·have xk:k<m.length:=by simp at h2;omega
    obtain⟨y,hy,IX⟩:=rev_at xk;rw[IX,cmpL]at hc;refine gC ?_;rw[hc]
   ·have xk:k=m.length:=by simp at h2;omega
    rw[aje (l:=m.reverse) (by simp;omega),cmpL]at hc;refine gC ?_;refine aP (by simp;omega) ?_;refine gC ?_;rw[hc]
theorem OE(a b:Text)(ha:Nm.valid a=true)(hb:Nm.valid b=true):aq E 300 [.str a,.str b] (· = .aG [.int .i64 (bH a b),.int .i64 0]):=by
 have h1:=dh ha;have h2:=dh hb;refine eP F300.h ?_
 with_reducible refine ao (fA _ (by unfold maxLen;omega)) ?_
 refine gC ?_
 with_reducible refine ao (fA _ (by unfold maxLen;omega)) ?_
 refine gC ?_;rw[ha,hb];refine aP dC (gC ?_);refine aP dC (gC ?_)
 with_reducible refine ao (Ep _ _ oM oM) ?_
 refine gC ?_
 with_reducible rfl
def pO(a b:dw):Int:=if bH a.name b.name≠0 then bH a.name b.name else kV a.type b.type
theorem OF(a b:dw)(ha:Nm.valid a.name=true)(hb:Nm.valid b.name=true):aq E 242 [a.enc,b.enc] (· = .int .i64 (pO a b)):=by
 refine eP Tryz.func242 ?_;repeat' (first|with_reducible(first|refine cC (OE _ _ ha hb) ?_|refine cX ?_|apply ah<;>intro)|refine gA Tryz.func242 ?_|refine gB ?_|with_reducible rfl)
 all_goals simp_all[pO,kV]
 all_goals omega
theorem tD{α:Type}{a b:List α}{k:Nat}{x y:α}(h:a.take k=b.take k)(ha:a[k]?=some x)(hb:b[k]?=some y)(e:x=y):a.take (k+1)=b.take (k+1):=by
 subst e;rw[cj ha,cj hb,h]
theorem tE{α:Type}{a b:List α}{k:Nat}(h:a.take k=b.take k)(ha:a.length<=k)(hb:b.length<=k):a=b:=by
 rwa [ajq ha,ajq hb]at h
theorem pP{α:Type}{a b:List α}{k:Nat}{x y:α}(ha:a[k]?=some x)(hb:b[k]?=some y)(e:x≠y):a≠b:=by
 rintro rfl;rw[ha]at hb;cases hb;exact e rfl
def Er(a b:Datum):Bool:=(a.text==b.text&&(a.n==b.n&&(a.m==b.m&&true)))
theorem OG{a b:Datum}:Er a b=true↔a=b:=by
 obtain⟨a1,a2,a3⟩:=a;obtain⟨b1,b2,b3⟩:=b;simp[Er]
theorem OH(a b:dw)(ha:a.data.length<=2147483648):aq E 99 [a.enc,b.enc] (· = .bool (decide (a=b))):=by
 obtain⟨an,at',al,ad⟩:=a;obtain⟨bn,bt,bl,bd⟩:=b;simp only at ha;refine eP F99.h ?_;repeat' (first|with_reducible(first|refine cX ?_|refine ah (fun _=>?_) (fun _=>?_))|refine gE ?_|with_reducible rfl)
 all_goals try (simp_all;done)
 case' refine_2.refine_2.refine_2.refine_1 =>
  rename_i h4;rw[decide_eq_false];intro h;have:=congrArg (fun s:dw=>s.data.length) h;simp only at this;simp[this]at h4
 all_goals
  rename_i h1 h2 h3 h4;simp only[bne_eq_false_iff_eq,Bool.not_eq_false',beq_iff_eq,aiO]at h1 h2 h3 h4;subst h1;subst h2;subst h3;have hl:ad.length=bd.length:=by omega
  rw[show decide (dw.mk an at' al ad=dw.mk an at' al bd)=decide (ad=bd) by simp];refine gC ?_;refine I.lP ad.length ([4,5]++rg 34 18) (fun k=>[(5,.d (.int .i64 k))]) (fun _=>[]) (fun k=>k<=ad.length/\ad.take k=bd.take k) ⟨ai4 _,rfl⟩ ?_ ?_
  ·exact sZ
  ·intro k hk IH;refine zA ?_ ?_<;>intro h5
   ·have ai:k<ad.length:=zD h5
    obtain⟨x,hx⟩:=aI ai;obtain⟨y,hy⟩:=aI (l:=bd) (k:=k) oM;refine gC ?_;refine dU ?_;refine fI x.enc oM (mo hx) rfl (gD ?_);refine fI y.enc oM (mo hy) rfl (gD ?_);refine gC ?_;refine ah (fun h6=>?_) (fun h6=>?_)
    ·have aL:x≠y:=fun e=>by
      have:=OG.2 e;simp[Er]at this;simp[this]at h6
     refine gC ?_;rw[decide_eq_false (pP hx hy aL)]
    ·have he:x=y:=OG.1 (by simpa [Er]using h6);refine gC ?_;exact I.back (IH (k+1) ⟨by omega,tD hk.2 hx hy he⟩ oM) sZ
   ·have aA:k=ad.length:=by simp at h5;omega
    refine gC ?_;rw[decide_eq_true (tE hk.2 oM oM)]
theorem XA(a b:Signed)(ha:a.set.data.length<=2147483648)(hs:a.sigs.length<=2147483648):aq E 169 [a.enc,b.enc] (· = .bool (decide (a=b))):=by
 obtain⟨Es,ad⟩:=a;obtain⟨Et,bd⟩:=b;simp only at ha hs;rw[show decide (Signed.mk Es ad=Signed.mk Et bd)=(decide (Es=Et)&&decide (ad=bd)) by simp];have OI:=OH Es Et ha;generalize decide (Es=Et)=q at OI ⊢;refine eP F169.h ?_
 with_reducible refine ao (OI) ?_
 refine gC ?_;cases q
 ·refine aN rfl (gC ?_);refine vT ?_;rfl
 ·refine aP rfl (gC ?_);apply ah<;>intro h4
  ·refine gC ?_;rw[decide_eq_false]
   ·rfl
   ·rintro rfl;simp at h4
  ·simp only[bne_eq_false_iff_eq,aiO]at h4;have hl:ad.length=bd.length:=by omega
   rw[aja];refine gC ?_;refine I.lP ad.length ([4,5]++rg 21 18) (fun k=>[(5,.d (.int .i64 k))]) (fun _=>[]) (fun k=>k<=ad.length/\ad.take k=bd.take k) ⟨ai4 _,rfl⟩ ?_ ?_
   ·exact sZ
   ·intro k hk IH;refine zA ?_ ?_<;>intro h5
    ·have ai:k<ad.length:=zD h5
     obtain⟨x,hx⟩:=aI ai;obtain⟨y,hy⟩:=aI (l:=bd) (k:=k) oM;refine gC ?_;refine dU ?_;refine fI x.enc oM (mo hx) rfl (gD ?_);refine fI y.enc oM (mo hy) rfl (gD ?_);refine gC ?_;apply ah<;>intro h6
     ·have aL:x≠y:=fun e=>by
       have:=OA.2 e;simp[Em]at this;simp[this]at h6
      refine gC ?_;rw[decide_eq_false (pP hx hy aL)]
     ·have he:x=y:=OA.1 (by simpa [Em]using h6);refine gC ?_;exact I.back (IH (k+1) ⟨by omega,tD hk.2 hx hy he⟩ oM) sZ
    ·have aA:k=ad.length:=by simp at h5;omega
     refine gC ?_;rw[decide_eq_true (tE hk.2 oM oM)]
structure Signed.ga(s:Signed):Prop where
 data:s.set.data.length<=2147483648
 sigs:s.sigs.length<=2147483648
theorem OJ(a b:List Signed)(hl:a.length<=2147483648)(ha:∀ s∈a,s.ga):aq E 100 [tj a,tj b] (· = .bool (decide (a=b))):=by
 refine eP F100.h ?_;apply ah<;>intro h4
 ·refine gC ?_;rw[decide_eq_false];rintro rfl;simp at h4
 ·simp only[bne_eq_false_iff_eq,aiO]at h4;have ng:a.length=b.length:=by omega
  refine gC ?_;refine I.lP a.length ([4,5]++rg 11 16) (fun k=>[(5,.d (.int .i64 k))]) (fun _=>[]) (fun k=>k<=a.length/\a.take k=b.take k) ⟨ai4 _,rfl⟩ ?_ ?_
  ·exact sZ
  ·intro k hk IH;refine zA ?_ ?_<;>intro h5
   ·have ai:k<a.length:=zD h5
    obtain⟨x,hx⟩:=aI ai;obtain⟨y,hy⟩:=aI (l:=b) (k:=k) oM;have iO:=ha x (aiQ hx);refine gC ?_;refine dU ?_;refine fI x.enc oM (mo hx) rfl (gD ?_);refine fI y.enc oM (mo hy) rfl (gD ?_);refine ax (XA x y iO.data iO.sigs) (gD ?_);refine gC ?_;apply ah<;>intro h6
    ·have aL:x≠y:=zD h6
     refine gC ?_;rw[decide_eq_false (pP hx hy aL)]
    ·have he:x=y:=zD h6
     refine gC ?_;exact I.back (IH (k+1) ⟨by omega,tD hk.2 hx hy he⟩ oM) sZ
   ·have aA:k=a.length:=by simp at h5;omega
    refine gC ?_;rw[decide_eq_true (tE hk.2 oM oM)]
structure aK.ga(z:aK):Prop where
 J:z.J.length<=2147483648
 each:∀ s∈z.J,s.ga
theorem XB(a b:aK)(ha:a.ga):aq E 36 [a.enc,b.enc] (· = .bool (decide (a=b))):=by
 obtain⟨aa,sa⟩:=a;obtain⟨ba,sb⟩:=b;rw[show decide (aK.mk aa sa=aK.mk ba sb)=(decide (aa=ba)&&decide (sa=sb)) by simp];have hs:=OJ sa sb ha.J ha.each;refine eP Tryz.func36 ?_;repeat' (first|with_reducible(first|refine cC hs ?_|refine cX ?_|apply ah<;>intro)|refine gA Tryz.func36 ?_|refine gB ?_|with_reducible rfl)
 all_goals simp_all
def chain{α:Type}(ok:α->Bool)(rel:α->α->Bool):Option α->List α->Bool
 |_,[]=>true
 |p,x::l=>ok x&&(match p with|none=>true|some q=>rel q x)&&chain ok rel (some x) l
def bS{α:Type}(l:List α)(k:Nat):Option α:=if k=0 then none else l[k-1]?
theorem xl{α:Type}{ok:α->Bool}{rel:α->α->Bool}{l:List α}{k:Nat}{x:α}(hx:l[k]?=some x):chain ok rel (bS l k) (l.drop k)=(ok x&&(match bS l k with|none=>true|some q=>rel q x)&&chain ok rel (bS l (k+1)) (l.drop (k+1))):=by
 have hk:=aW hx;rw[ajf hk];have e1:l[k]=x:=by simpa [hk]using hx
 have e2:bS l (k+1)=some x:=by simp[bS,hx]
 rw[e1,e2];rfl
theorem tF{α:Type}{l:List α}{k:Nat}(h0:0<k)(hk:k<=l.length):∃ q,l[k-1]?=some q/\bS l k=some q:=by
 obtain⟨q,hq⟩:=aI (l:=l) (k:=k-1) oM;exact⟨q,hq,by simp[bS,hq];omega⟩
def ep(af:Text)(g0 g:dE):Bool:=(g.ar==af)&&decide (1<=g.key)&&decide (g.key<=1000000)&&decide (1<=g.nN)&&decide (g.nN<=3)&&(g.bQ==g0.bQ)&&(g.upto==g0.upto)&&decide (0<=g.bQ)&&decide (g.bQ<=g.upto)&&decide (g.upto<=20000000)
def gX(q g:dE):Bool:=decide (q.key<g.key)
def kX(l:List dE)(af:Text):Bool:=decide ((l.length:Int)<=6)&&chain (ep af (l.headD BR)) gX none l
theorem IY{l:List dE}{k:Nat}(h:k<l.length):l[0]?=some (l.headD BR):=by
 cases l with
 |nil=>simp at h
 |cons x l=>rfl
theorem IZ(l:List dE)(af:Text):aq E 247 [rI l,.str af] (· = .bool (kX l af)):=by
 unfold kX;have hg:∃ g0,g0=l.headD BR:=⟨_,rfl⟩;obtain⟨g0,hg⟩:=hg;rw[<- hg];refine eP F247.h ?_;apply ah<;>intro h1
 ·refine gC ?_;simp only[aiO]at h1;rw[decide_eq_false (by simp at h1;omega),ald]
 ·have h6:l.length<=6:=by simp at h1;omega
  rw[decide_eq_true oM,aja];refine gC ?_;refine I.lP l.length ([4,5,6]++rg 10 82) (fun k=>[(5,.d (.int .i64 k))]) (fun _=>[]) (fun k=>k<=l.length/\chain (ep af g0) gX none l=chain (ep af g0) gX (bS l k) (l.drop k)) ⟨ai4 _,rfl⟩ ?_ ?_
  ·exact sZ
  ·intro k hk IH;refine zA ?_ ?_<;>intro h5
   ·have ai:k<l.length:=zD h5
    obtain⟨x,hx⟩:=aI ai;have h0:=IY ai;rw[<- hg]at h0;have aJ:=xl (ok:=ep af g0) (rel:=gX) hx;rw[<- hk.2]at aJ;refine gC ?_;refine aR (bC hx) rfl (gC ?_);refine dU ?_;rcases alL k with cb|cb
    ·have dM:bS l k=none:=by simp[bS,cb]
     rw[dM]at aJ;dsimp only at aJ;rw[alr]at aJ;repeat' (first|with_reducible(first|refine aR (bC hx) rfl ?_|refine aR (tr h0) rfl ?_|refine cX ?_|apply ah<;>intro)|refine gE ?_|with_reducible rfl)
     all_goals first
      |(have bI : ep af g0 x=false := by clear aJ hk IH hg;simp_all[ep, gX, bS]<;>(intros;omega)
        rw[aJ, bI, ald]
        done)
      |(exfalso;clear aJ hk IH hg;simp_all;done)
      |skip
     all_goals
      refine gC ?_;refine I.back (IH (k+1) ⟨by omega,by rw[aJ,show ep af g0 x=true by clear aJ hk IH hg;simp_all[ep,gX,bS]<;>omega,aja]⟩ oM) ?_;exact sZ
    ·obtain⟨q,hq,dM⟩:=tF cb hk.1;rw[dM]at aJ;repeat' (first|with_reducible(first|refine aR (bC hx) rfl ?_|refine aR (tr h0) rfl ?_|refine aR (nP hq cb oM) rfl ?_|refine cX ?_|apply ah<;>intro)|refine gE ?_|with_reducible rfl)
     all_goals first
      |(have bI : (ep af g0 x && gX q x)=false := by clear aJ hk IH hg;simp_all[ep, gX, bS]<;>(intros;omega)
        rw[aJ, bI, ald]
        done)
      |(exfalso;clear aJ hk IH hg;simp_all;done)
      |skip
     all_goals
      refine gC ?_;refine I.back (IH (k+1) ⟨by omega,by rw[aJ,show(ep af g0 x&&gX q x)=true by clear aJ hk IH hg;simp_all[ep,gX,bS]<;>omega,aja]⟩ oM) ?_;exact sZ
   ·have aA:l.length<=k:=zD h5
    refine gC ?_;rw[hk.2,aje aA];rfl
def xm(t:Int)(af:Bool):Bool:=if af then t != 3&&t != 6 else t != 4&&t != 7
theorem OL(t:Int)(af:Bool):aq E 244 [.int .i64 t,.bool af] (· = .bool (xm t af)):=by
 refine eP Tryz.func244 ?_;repeat' (first|with_reducible(first|refine cX ?_|apply ah<;>intro)|refine gA Tryz.func244 ?_|refine gB ?_|with_reducible rfl)
 all_goals simp_all[xm]
def cF(q:bp)(s:Signed):Bool:=s.set.name==q.name&&s.set.type==q.type
def aC(l:List Signed)(q:bp):Int:=match l.findIdx? (cF q)with
 |some i=>i
 |none => -1
theorem OM{l:List Signed}{q:bp}{k:Nat}{x:Signed}(h:∀ j y,j<k->l[j]?=some y->cF q y=false)(hx:l[k]?=some x)(hq:cF q x=true):aC l q=k:=by
 have:l.findIdx? (cF q)=some k:=by
  rw[alT];have hk:=aW hx;refine⟨hk,?_,fun j hj=>?_⟩
  ·have:l[k]=x:=by simpa [hk]using hx
   rw[this];exact hq
  ·have:=h j l[j] hj sP;rw[this];decide
 rw[aC,this]
theorem XC{l:List Signed}{q:bp}(h:∀ j y,j<l.length->l[j]?=some y->cF q y=false):aC l q = -1:=by
 have:l.findIdx? (cF q)=none:=by
  rw[alU];intro x hx;obtain⟨j,hj⟩:=aiN hx;exact h j x (aW hj) hj
 rw[aC,this]
theorem BS(z:aK)(q:bp)(hl:z.J.length<=2147483648):aq E 243 [z.enc,q.enc] (· = .int .i64 (aC z.J q)):=by
 obtain⟨af,l⟩:=z;simp only at hl ⊢;refine eP F243.h ?_;refine I.lP l.length (rg 4 32) (fun k=>[(5,.d (.int .i64 k))]) (fun _=>[]) (fun k=>k<=l.length/\∀ j y,j<k->l[j]?=some y->cF q y=false) ⟨ai4 _,fun j y h=>by omega⟩ ?_ ?_
 ·exact sZ
 ·intro k hk IH;refine zA ?_ ?_<;>intro h5
  ·have ai:k<l.length:=zD h5
   obtain⟨x,hx⟩:=aI ai;refine gC ?_;refine dU ?_;repeat' (first|with_reducible(first|refine aR (bC hx) rfl ?_|refine cX ?_|apply ah<;>intro)|refine gE ?_|with_reducible rfl)
   all_goals first
    |(rw[OM hk.2 hx (by simp_all[cF])];done)
    |skip
   all_goals
    refine gC ?_;refine I.back (IH (k+1) ⟨by omega,fun j y hj hy=>?_⟩ oM) ?_
    ·rcases ahs j k with h|h
     ·exact hk.2 j y h hy
     ·obtain rfl:j=k:=by omega
      rw[hx]at hy;cases hy;simp_all[cF]
    ·exact sZ
  ·have aA:k=l.length:=by simp at h5;omega
   subst aA;refine gC ?_;rw[XC hk.2]
def zq(s:Signed):Bool := !(decide ((s.set.data.length:Int)>20)) && !(decide ((s.sigs.length:Int)>20))
def nh(z:aK):Bool:=(z.J.take 101).all zq&&decide ((z.J.length:Int)<=100)
theorem I0(z:aK):aq E 19 [z.enc] (· = .bool (nh z)):=by
 obtain⟨af,l⟩:=z;unfold nh;simp only;refine eP F19.h ?_;refine I.lP l.length (rg 2 32) (fun k=>[(3,.d (.int .i64 k))]) (fun _=>[]) (fun k=>k<=l.length/\k<=101/\(l.take k).all zq=true) ⟨ai4 _,by omega,rfl⟩ ?_ ?_
 ·exact sZ
 ·intro k hk IH;refine zA ?_ ?_<;>intro h5
  ·have ai:k<l.length:=zD h5
   obtain⟨x,hx⟩:=aI ai;refine gC ?_;apply ah<;>intro h6
   ·have ON:k<=100:=by simp at h6;omega
    have dY:(l.take 101)[k]?=some x:=by rw[List.getElem?_take,if_pos oM];exact hx
    refine gC ?_;repeat' (first|with_reducible(first|refine aR (bC hx) rfl ?_|refine cX ?_|apply ah<;>intro)|refine gE ?_|with_reducible rfl)
    all_goals first
     |(rw[dK dY (by simp_all[zq]),ald];done)
     |skip
    all_goals
     refine gC ?_;exact I.back (IH (k+1) ⟨by omega,by omega,ea hk.2.2 hx (by simp_all[zq])⟩ oM) sZ
   ·have ON:k=101:=by simp at h6;omega
    subst ON;refine gC ?_;rw[hk.2.2,aja];simp
  ·have aA:k=l.length:=by simp at h5;omega
   refine gC ?_;refine vF ?_;rw[show(l.take 101).all zq=true by rw[ajq oM];exact nb hk.2.2 oM,aja];simp
def tG(z:aK):Bool := !(decide (aC z.J ⟨z.af,4⟩<0)) && !(decide (aC z.J ⟨z.af,2⟩<0))&&z.J.all fun s=>xm s.set.type (s.set.name==z.af)
theorem OO(z:aK)(hl:z.J.length<=2147483648):aq E 159 [z.enc] (· = .bool (tG z)):=by
 obtain⟨af,l⟩:=z;simp only at hl;have h1:=BS ⟨af,l⟩ ⟨af,4⟩ hl;have h2:=BS ⟨af,l⟩ ⟨af,2⟩ hl;refine eP F159.h ?_;repeat' (first|with_reducible(first|refine cC h1 ?_|refine cC h2 ?_|refine cX ?_|apply ah<;>intro)|refine gE ?_|with_reducible rfl)
 all_goals try (simp_all[tG];done)
 all_goals
  rename_i h3 h4;simp only[tG,h3,h4,ali,aja];refine gC ?_;refine I.lP l.length ([2,3]++rg 18 26) (fun k=>[(3,.d (.int .i64 k))]) (fun _=>[]) (fun k=>k<=l.length/\(l.take k).all (fun s=>xm s.set.type (s.set.name==af))=true) ⟨ai4 _,rfl⟩ ?_ ?_
  ·exact sZ
  ·intro k hk IH;refine zA ?_ ?_<;>intro h5
   ·have ai:k<l.length:=zD h5
    obtain⟨x,hx⟩:=aI ai;refine gC ?_;refine dU ?_;repeat' (first|with_reducible(first|refine aR (bC hx) rfl ?_|refine cC (OL _ _) ?_|refine cX ?_|apply ah<;>intro)|refine gE ?_|with_reducible rfl)
    all_goals first
     |(rw[dK hx (by simp_all)];done)
     |skip
    all_goals
     refine gC ?_;exact I.back (IH (k+1) ⟨by omega,ea hk.2 hx (by simp_all)⟩ oM) sZ
   ·have aA:l.length<=k:=zD h5
    refine gC ?_;rw[nb hk.2 aA]
def nU:Text->Option Text->List Signed->Bool
 |_,_,[]=>true
 |al,p,s::l=>(match p with
   |none=>true
   |some n=>if n==s.set.name then !((s.set.name != []&&s.set.type==3)||(s.set.name != []&&(s.set.name==if s.set.type==3 then s.set.name else al)&&s.set.type != 3&&s.set.type != 8))else true)
  && nU (if s.set.type==3 then s.set.name else al) (some s.set.name) l
theorem XD{al : Text}{l : List Signed}{k : Nat}{x : Signed}(hx : l[k]?=some x) : nU al (bS (l.map (·.set.name)) k) (l.drop k)=((match bS (l.map (·.set.name)) k with
      |none => true
      |some n => if n == x.set.name then !((x.set.name != [] && x.set.type == 3) || (x.set.name != [] && (x.set.name == if x.set.type == 3 then x.set.name else al) && x.set.type != 3 && x.set.type != 8))else true)
  && nU (if x.set.type==3 then x.set.name else al) (bS (l.map (·.set.name)) (k+1)) (l.drop (k+1))):=by
 have hk:=aW hx;rw[ajf hk];have e1:l[k]=x:=by simpa [hk]using hx
 have e2:bS (l.map (·.set.name)) (k+1)=some x.set.name:=by simp[bS,hx]
 rw[e1,e2];rfl
theorem OP(z:aK)(hl:z.J.length<=2147483648):aq E 160 [z.enc] (· = .bool (nU [] none z.J)):=by
 obtain⟨af,l⟩:=z;simp only at hl ⊢;refine eP F160.h ?_;refine I.loop (κ:=Nat × Text) [2,3,4,5,6,7,8,9,10,11,12,13,14,15,16,17,18,19,20,21,22,23,24,25,26,27,28,29,30,31,32,33,34,35,36,37,38,39,40,41,42,43,44,45,46,47,48,49,50,51,52,53,54,55,56,57,58,59,60,61,62,63,64,65,66,67,68,69,70,71,72,73,74,75,76,77,78,79,80,81,82,83,84,85] (fun k=>[(4,.d (.int .i64 k.1)),(3,.d (.str k.2))]) (fun _=>[]) (fun k=>k.1<=l.length/\nU [] none l=nU k.2 (bS (l.map (·.set.name)) k.1) (l.drop k.1)) (fun k=>l.length-k.1) (0,[]) ⟨ai4 _,rfl⟩ ?_ ?_
 ·exact sZ
 ·rintro⟨k,al⟩ hk IH;simp only at hk;refine zA ?_ ?_<;>intro h5
  ·have ai:k<l.length:=zD h5
   obtain⟨x,hx⟩:=aI ai;have aJ:=XD (al:=al) hx;rw[<- hk.2]at aJ;refine gC ?_;refine aR (bC hx) rfl (gC ?_);refine ah (fun h6=>?_) (fun h6=>?_);all_goals
    rcases alL k with cb|cb
    ·have dM:bS (l.map (·.set.name)) k=none:=by simp[bS,cb]
     rw[dM]at aJ;refine gC ?_;repeat' (first|with_reducible(first|refine aR (bC hx) rfl ?_|refine cX ?_|apply ah<;>intro)|refine gE ?_|with_reducible rfl)
     refine gC ?_;refine dU ?_;repeat' (first|with_reducible(first|refine aR (bC hx) rfl ?_|refine cX ?_|apply ah<;>intro)|refine gE ?_|with_reducible rfl)
     all_goals first
      |(exfalso;clear aJ hk IH;simp_all;done)
      |skip
     all_goals
      refine gC ?_;refine I.back (IH (k+1,if x.set.type==3 then x.set.name else al) ⟨by simp only;omega,by simp only;rw[aJ];simp⟩ (by simp only;omega)) ?_;(conv=>whnf);repeat (first|exact trivial|(refine And.intro (by first|with_reducible rfl|exact congrArg (DV.int .i64) oM|exact congrArg DV.str (by simp[h6])|exact congrArg (DV.int .i64) (wrap64 oM oM)|exact congrArg (DV.int .i64) ((wrap64 oM oM).trans oM)) ?_;conv=>whnf))
    ·obtain⟨q,hq,-⟩:=tF cb hk.1;have dM:bS (l.map (·.set.name)) k=some q.set.name:=by simp[bS,hq];omega
     rw[dM]at aJ;refine gC ?_;repeat' (first|with_reducible(first|refine aR (bC hx) rfl ?_|refine aR (nP hq cb oM) rfl ?_|refine cX ?_|apply ah<;>intro)|refine gE ?_|with_reducible rfl)
     refine gC ?_;refine dU ?_;repeat' (first|with_reducible(first|refine aR (bC hx) rfl ?_|refine aR (nP hq cb oM) rfl ?_|refine cX ?_|apply ah<;>intro)|refine gE ?_|with_reducible rfl)
     all_goals first
      |(rw[aJ];clear aJ hk IH;simp_all;done)
      |(exfalso;clear aJ hk IH;simp_all;done)
      |skip
     all_goals
      refine gC ?_;refine I.back (IH (k+1,if x.set.type==3 then x.set.name else al) ⟨by simp only;omega,by simp only;rw[aJ];clear aJ hk IH;simp_all⟩ (by simp only;omega)) ?_;(conv=>whnf);repeat (first|exact trivial|(refine And.intro (by first|with_reducible rfl|exact congrArg (DV.int .i64) oM|exact congrArg DV.str (by simp[h6])|exact congrArg (DV.int .i64) (wrap64 oM oM)|exact congrArg (DV.int .i64) ((wrap64 oM oM).trans oM)) ?_;conv=>whnf))
  ·have aA:l.length<=k:=zD h5
   refine gC ?_;rw[hk.2,aje aA];rfl
def jT(af:Text)(s:Signed):Bool:=s.set.type==2&&s.set.name != af
def cm(af:Text)(l:List Signed):List Text:=(l.filter (jT af)).map (·.set.name)
theorem XE{af:Text}{l:List Signed}{k:Nat}{x:Signed}(h:l[k]?=some x):cm af (l.take (k+1))=cm af (l.take k)++(if jT af x then[x.set.name]else[]):=by
 rw[cj h];simp only[cm,List.filter_append,List.map_append]
 congr 1
 cases hc:jT af x<;>simp[hc]
theorem Eu(af:Text)(l:List Signed):(cm af l).length<=l.length:=by
 simp only[cm,aiO];exact List.length_filter_le _ _
theorem qF{af:Text}{l:List Signed}{c:Text}(h:c∈cm af l):∃ s∈l,s.set.name=c/\jT af s=true:=by
 simp only[cm,List.mem_map,List.mem_filter]at h;obtain⟨s,⟨h1,h2⟩,h3⟩:=h;exact⟨s,h1,h3,h2⟩
theorem OQ(z:aK)(hl:z.J.length<=1000000000):aq E 334 [z.enc] (· = .sl ((cm z.af z.J).map .str)):=by
 obtain⟨af,l⟩:=z;simp only at hl ⊢;refine eP F334.h ?_;refine I.nH 3 (9,1) dC rfl ?_;(conv=>whnf);refine I.lP l.length (rg 3 31) (fun k=>[(4,.d (.int .i64 k)),(3,.own 1 1)]) (fun k=>[(1,.arr 1 (9,1) ((cm af (l.take k)).map .str))]) (fun k=>k<=l.length) (ai4 _) ?_ ?_
 ·(conv=>whnf);repeat (first|exact trivial|(refine And.intro (by first|with_reducible rfl|exact congrArg (DV.int .i64) oM|exact rfl|exact congrArg (DV.int .i64) (wrap64 oM oM)|exact congrArg (DV.int .i64) ((wrap64 oM oM).trans oM)) ?_;conv=>whnf))
 ·intro k hk IH;have dR:=Eu af (l.take k);rw[ah1]at dR;refine zA ?_ ?_<;>intro h5
  ·have ai:k<l.length:=zD h5
   obtain⟨x,hx⟩:=aI ai;have aJ:=XE (af:=af) hx;refine gC ?_;repeat' (first|with_reducible(first|refine aR (bC hx) rfl ?_|refine cX ?_|apply ah<;>intro)|refine gE ?_|with_reducible rfl)
   all_goals first
    |(refine nA ?_
      have hc : jT af x=true := by simp_all[jT])
    |(have hc:jT af x=false:=by simp_all[jT])
   all_goals
    rw[hc]at aJ;refine gC ?_;refine I.back (IH (k+1) oM oM) ?_;refine sY ?_
    refine And.intro (by rw[aJ];simp) ?_;exact sZ
  ·have aA:l.length<=k:=zD h5
   refine gC ?_;rw[ajq aA]
def mu(out:List Text)(c:Text):List Text:=match out.getLast? with
 |none=>out++[c]
 |some d=>if Nm.under c d then out else out++[c]
def gg(l:List Text):List Text:=l.foldl mu []
theorem XF{l:List Text}{k:Nat}{x:Text}(h:l[k]?=some x):gg (l.take (k+1))=mu (gg (l.take k)) x:=by
 rw[cj h,gg,alH];rfl
theorem XG(o:List Text)(c:Text):(mu o c).length<=o.length+1:=by
 unfold mu;split
 ·simp
 ·split<;>simp
theorem OR(l:List Text):(gg l).length<=l.length:=by
 have:∀ (l o:List Text),(l.foldl mu o).length<=o.length+l.length:=by
  intro l
  induction l with
  |nil=>simp
  |cons x l ih=>intro o;have:=ih (mu o x);have:=XG o x;simp;omega
 have:=this l []
 simpa [gg]using this
theorem zr{l:List Text}:∀ c∈gg l,c∈l:=by
 have:∀ (l o:List Text),∀ c∈l.foldl mu o,c∈o\/c∈l:=by
  intro l
  induction l with
  |nil=>intro o c h;exact .inl h
  |cons x l ih =>
   intro o c h;rcases ih (mu o x) c h with h|h
   ·have:c∈o\/c=x:=by
     unfold mu at h;split at h
     ·simpa using h
     ·split at h
      ·exact .inl h
      ·simpa using h
    rcases this with h|h
    ·exact .inl h
    ·exact .inr (by simp[h])
   ·exact .inr (aip _ h)
 intro c h;rcases this l [] c h with h|h
 ·simp at h
 ·exact h
theorem XH(z:aK)(hl:z.J.length<=1000000000)(hn:∀ s∈z.J,s.set.name.length<=1000):aq E 301 [z.enc] (· = .sl ((gg (cm z.af z.J)).map .str)):=by
 have dG:∀ c∈cm z.af z.J,c.length<=1000:=fun c hc=>by
  obtain⟨s,h1,rfl,-⟩:=qF hc;exact hn s h1
 have dR:=Eu z.af z.J;refine eP F301.h ?_
 with_reducible refine ao (OQ z hl) ?_
 refine gC ?_;generalize cm z.af z.J=l at *;refine I.nH 4 (9,1) dC rfl ?_;(conv=>whnf);refine I.lP l.length ([4,5]++rg 8 30) (fun k=>[(5,.d (.int .i64 k)),(4,.own 1 1)]) (fun k=>[(1,.arr 1 (9,1) ((gg (l.take k)).map .str))]) (fun k=>k<=l.length) (ai4 _) ?_ ?_
 ·(conv=>whnf);repeat (first|exact trivial|(refine And.intro (by first|with_reducible rfl|exact congrArg (DV.int .i64) oM|exact rfl|exact congrArg (DV.int .i64) (wrap64 oM oM)|exact congrArg (DV.int .i64) ((wrap64 oM oM).trans oM)) ?_;conv=>whnf))
 ·intro k hk IH;have Ev:=OR (l.take k);rw[ah1]at Ev;have XI:∀ c∈gg (l.take k),c.length<=1000:=fun c hc=>dG c (List.mem_of_mem_take (zr c hc));refine zA ?_ ?_<;>intro h5
  ·have ai:k<l.length:=zD h5
   obtain⟨x,hx⟩:=aI ai;have iO:=dG x (aiQ hx);have aJ:=XF hx;generalize gg (l.take k)=o at *;rcases alP o with rfl|⟨i,d,rfl⟩
   ·refine gC ?_;refine dU ?_;refine aN sP (gD ?_);refine gC ?_;refine vT ?_;refine aR (bC hx) rfl (gC ?_);refine bj ⟨by simp,by simp[DV.cells]⟩ (gC ?_);refine I.back (IH (k+1) oM oM) ?_;refine sY ?_
    refine And.intro (by rw[aJ];simp[mu]) ?_;exact sZ
   ·simp only[alQ]at *;have hw:IntKind.i64.wrap ((((i++[d]).map DV.str).length:Int)-1)=(i.length:Int):=by
     rw[wrap64 sP (by simp;simp at Ev;omega)];simp
    have eU:((i++[d]).map DV.str)[((i.length:Nat):Int).toNat]?=some (.str d):=by simp
    have nV:=XI d sP;have bc:mu (i++[d]) x=if Nm.under x d then i++[d]else i++[d]++[x]:=by simp[mu]
    rw[bc]at aJ;refine gC ?_;refine dU ?_;refine aP (by simp;omega) ?_;refine gD ?_;refine aR (bC hx) rfl (gD ?_);rw[hw];refine bj ⟨by omega,by simp;omega⟩ ?_;refine gD ?_;refine fI (.str d) oM sP rfl (gD ?_);refine ax (rN _ _ iO nV) (gD ?_);cases hu:Nm.under x d
    ·rw[hu]at aJ;refine gC ?_;refine aN dC (gC ?_);refine aR (bC hx) rfl (gC ?_);refine bj ⟨by simp;simp at Ev;omega,by simp[DV.cells]⟩ ?_;refine gC ?_;refine I.back (IH (k+1) oM oM) ?_;refine sY ?_
     refine And.intro (by rw[aJ];simp) ?_;exact sZ
    ·rw[hu]at aJ;refine gC ?_;refine aP dC (gC ?_);refine I.back (IH (k+1) oM oM) ?_;refine sY ?_
     refine And.intro (by rw[aJ];simp) ?_;exact sZ
  ·have aA:l.length<=k:=zD h5
   refine gC ?_;rw[ajq aA]
def fM(di:List Text)(n:Text)(k:Nat):Nat:=k+((di.drop k).takeWhile fun c=>decide (bH c n<=0)).length
theorem XJ{di:List Text}{n c:Text}{k:Nat}(h:di[k]?=some c)(ho:bH c n<=0):fM di n k=fM di n (k+1):=by
 have hk:=aW h;have e1:di[k]=c:=by simpa [hk]using h
 unfold fM;rw[ajf hk,e1,List.takeWhile_cons_of_pos (zD ho)];simp;omega
theorem XK{di:List Text}{n c:Text}{k:Nat}(h:di[k]?=some c)(ho:¬ bH c n<=0):fM di n k=k:=by
 have hk:=aW h;have e1:di[k]=c:=by simpa [hk]using h
 unfold fM;rw[ajf hk,e1,List.takeWhile_cons_of_neg (zD ho)];simp
theorem XL{di:List Text}{n:Text}{k:Nat}(h:di.length<=k):fM di n k=k:=by
 unfold fM;rw[aje h];simp
theorem Ew{di:List Text}{n:Text}{k:Nat}(h:k<=di.length):fM di n k<=di.length:=by
 unfold fM;have h1:((di.drop k).takeWhile fun c=>decide (bH c n<=0)).length<=(di.drop k).length:=(alV _).length_le;simp at h1 ⊢;omega
def nW(di:List Text)(n:Text)(k:Nat):Text:=if k=0 then[]else match di[k-1]? with
 |some c=>if Nm.under n c then c else[]
 |none=>[]
def oV(di:List Text):Nat->List Text->List Text
 |_,[]=>[]
 |k,n::ns=>nW di n (fM di n k)::oV di (fM di n k) ns
theorem OS(di:List Text):∀ (k:Nat) (ns:List Text),(oV di k ns).length=ns.length
 |_,[]=>rfl
 |k,n::ns=>by simp[oV,OS di _ ns]
def kr(z:aK):List Text:=oV (gg (cm z.af z.J)) 0 (z.J.map (·.set.name))
theorem vq(z:aK):(kr z).length=z.J.length:=by simp[kr,OS]
theorem vt{α:Type}{B:List α}{e x:α}{i n:Nat}(hB:B.length=n)(h:B[i]?=some x):(B.take i++ahC (n-i) e).set i x=B.take (i+1)++ahC (n-(i+1)) e:=by
 have hi:=aW h;rw[cj h,List.set_append_right _ _ (by simp;omega)];simp only[ah1,aiK]
 congr 1
 rw[show n-i=(n-(i+1))+1 by omega,aiL];simp[Nat.min_eq_left (Nat.le_of_lt hi)]
theorem Ex{α:Type}{B:List α}{e:α}{i n:Nat}(hB:B.length=n)(h:B[i]?=some e):B.take i++ahC (n-i) e=B.take (i+1)++ahC (n-(i+1)) e:=by
 have hi:=aW h;rw[cj h,aiK]
 congr 1
 rw[show n-i=(n-(i+1))+1 by omega,aiL];rfl
theorem vu{α:Type}{B:List α}{e:α}{i n:Nat}(hB:B.length=n)(hi:i<n):(B.take i++ahC (n-i) e)[i]?=some e:=by
 rw[aiH (by simp;omega)];simp only[ah1];rw[show i-min i B.length=0 by omega];rw[List.getElem?_replicate,if_pos oM]
theorem OT(z:aK)(hl:z.J.length<=1000000)(hn:∀ s∈z.J,s.set.name.length<=1000):aq E 245 [z.enc] (· = .sl ((kr z).map .str)):=by
 have dG:∀ c∈gg (cm z.af z.J),c.length<=1000:=fun c hc=>by
  obtain⟨s,h1,rfl,-⟩:=qF (zr c hc);exact hn s h1
 have dR:(gg (cm z.af z.J)).length<=z.J.length:=Nat.le_trans (OR _) (Eu _ _);have jw:=vq z;have I1:kr z=oV (gg (cm z.af z.J)) 0 (z.J.map (·.set.name)):=rfl;generalize kr z=B at *;refine eP F245.h ?_
 with_reducible refine ao (XH z oM hn) ?_
 refine gC ?_;generalize gg (cm z.af z.J)=di at *;obtain⟨af,l⟩:=z;simp only at *;refine bj ?_ ?_
 ·simp;omega
 ·refine gC ?_;refine I.loop (κ:=Nat × Nat) [5,6,7,14,15,16,17,18,19,20,21,22,23,24,25,26,27,28,29,30,31,32,33,34,35,36,37,38,39,40,41,42,43,44,45,46,47,48,49,50,51,52,53,54,55,56,57,58,59,60,61] (fun k=>[(6,.d (.int .i64 k.1)),(5,.d (.int .i64 k.2)),(4,.own 1 0)]) (fun k=>[(1,.arr 0 (9,1) ((B.take k.1++ahC (l.length-k.1) []).map .str))]) (fun k=>k.1<=l.length/\k.2<=di.length/\B.drop k.1=oV di k.2 ((l.drop k.1).map (·.set.name))) (fun k=>l.length-k.1) (0,0) ⟨ai4 _,ai4 _,zD I1⟩ ?_ ?_
  ·refine sY ?_
   refine⟨by simp, ?_⟩;exact sZ
  ·rintro⟨i,k⟩ hk IH;simp only at hk;refine zA ?_ ?_<;>intro h5
   ·have ai:i<l.length:=zD h5
    obtain⟨x,hx⟩:=aI ai;have iO:=hn x (aiQ hx);have I2:(l.drop i).map (·.set.name)=x.set.name::(l.drop (i+1)).map (·.set.name):=by
     have e1:l[i]=x:=by simpa [ai]using hx
     rw[ajf ai,e1];rfl
    obtain⟨-,fq,xn⟩:=hk;rw[I2,oV]at xn;have gP:B[i]?=some (nW di x.set.name (fM di x.set.name k)):=by
     have:=congrArg (fun l=>l[0]?) xn
     simpa using this
    have ku:B.drop (i+1)=oV di (fM di x.set.name k) ((l.drop (i+1)).map (·.set.name)):=by
     have:=congrArg List.tail xn
     simpa using this
    have rT:=Ew (n:=x.set.name) fq;refine gC ?_;refine aR (bC hx) rfl (gC ?_);refine I.loop (κ:=Nat) ([5]++rg 28 15) (fun j=>[(5,.d (.int .i64 j))]) (fun _=>[]) (fun j=>j<=di.length/\fM di x.set.name k=fM di x.set.name j) (fun j=>di.length-j) k ⟨fq,rfl⟩ ?_ ?_
    ·exact sZ
    ·intro j hj qG;have leave:∀ (Ea:fM di x.set.name k=j),True:=fun _=>trivial;refine zA ?_ ?_<;>intro h6
     ·have ni:j<di.length:=zD h6
      obtain⟨c,hc⟩:=aI ni;have XM:=dG c (aiQ hc);refine gC ?_;refine aR (bC hc) rfl (gC ?_)
      with_reducible refine ao (Ep _ _ XM iO) ?_
      refine gC ?_;apply ah<;>intro h7
      ·refine gC ?_;refine I.back (qG (j+1) ⟨by omega,by rw[hj.2];exact XJ hc (zD h7)⟩ oM) ?_;exact sZ
      ·have I3:fM di x.set.name k=j:=by rw[hj.2];exact XK hc (zD h7)
       rw[I3]at gP ku;refine gC ?_;rcases alL j with oJ|oJ
       ·have ki:nW di x.set.name j=[]:=by simp[nW,oJ]
        rw[ki]at gP;refine aP (by simp;omega) ?_;refine gC ?_;refine vF ?_;refine I.back (IH (i+1,j) ⟨by simp only;omega,by simp only;omega,ku⟩ (by simp only;omega)) ?_;refine sY ?_
        exact And.intro (by rw[Ex jw gP]) sZ
       ·obtain⟨c,hc⟩:=aI (l:=di) (k:=j-1) oM;have I4:=dG c (aiQ hc);have ki:nW di x.set.name j=if Nm.under x.set.name c then c else[]:=by simp[nW,hc];omega
        rw[ki]at gP;refine aN (by simp;omega) ?_;refine gC ?_;refine aR (nP hc oJ oM) rfl (gC ?_)
        with_reducible refine ao (rN _ _ iO I4) ?_
        refine gC ?_;cases hu:Nm.under x.set.name c
        ·rw[hu]at gP;refine vF ?_;refine I.back (IH (i+1,j) ⟨by simp only;omega,by simp only;omega,ku⟩ (by simp only;omega)) ?_;refine sY ?_
         exact And.intro (by rw[Ex jw (zD gP)]) sZ
        ·rw[hu]at gP;refine vT ?_;refine aR (nP hc oJ oM) rfl (gC ?_);refine bj ⟨by omega,by simp;omega⟩ ?_;refine gC ?_;refine fI (.str []) oM (by simp only[ai0,ahy];rw[vu jw ai];rfl) rfl ?_;refine gC ?_;refine I.back (IH (i+1,j) ⟨by simp only;omega,by simp only;omega,ku⟩ (by simp only;omega)) ?_;refine sY ?_
         refine And.intro (by rw[<- vt (e:=[]) jw (zD gP)];simp[alM]) ?_;exact sZ
     ·have I3:fM di x.set.name k=j:=by rw[hj.2];exact XL (zD h6)
      rw[I3]at gP ku;refine gC ?_;refine vF ?_;rcases alL j with oJ|oJ
      ·have ki:nW di x.set.name j=[]:=by simp[nW,oJ]
       rw[ki]at gP;refine aP (by simp;omega) ?_;refine gC ?_;refine vF ?_;refine I.back (IH (i+1,j) ⟨by simp only;omega,by simp only;omega,ku⟩ (by simp only;omega)) ?_;refine sY ?_
       exact And.intro (by rw[Ex jw gP]) sZ
      ·obtain⟨c,hc⟩:=aI (l:=di) (k:=j-1) oM;have I4:=dG c (aiQ hc);have ki:nW di x.set.name j=if Nm.under x.set.name c then c else[]:=by simp[nW,hc];omega
       rw[ki]at gP;refine aN (by simp;omega) ?_;refine gC ?_;refine aR (nP hc oJ oM) rfl (gC ?_)
       with_reducible refine ao (rN _ _ iO I4) ?_
       refine gC ?_;cases hu:Nm.under x.set.name c
       ·rw[hu]at gP;refine vF ?_;refine I.back (IH (i+1,j) ⟨by simp only;omega,by simp only;omega,ku⟩ (by simp only;omega)) ?_;refine sY ?_
        exact And.intro (by rw[Ex jw (zD gP)]) sZ
       ·rw[hu]at gP;refine vT ?_;refine aR (nP hc oJ oM) rfl (gC ?_);refine bj ⟨by omega,by simp;omega⟩ ?_;refine gC ?_;refine fI (.str []) oM (by simp only[ai0,ahy];rw[vu jw ai];rfl) rfl ?_;refine gC ?_;refine I.back (IH (i+1,j) ⟨by simp only;omega,by simp only;omega,ku⟩ (by simp only;omega)) ?_;refine sY ?_
        refine And.intro (by rw[<- vt (e:=[]) jw (zD gP)];simp[alM]) ?_;exact sZ
   ·have aA:l.length<=i:=zD h5
    refine gC ?_;simp only[show l.length-i=0 by omega,alR,aj0];rw[ajq oM]
theorem zt{α β:Type}{a:List α}{b:List β}{k:Nat}{x:α}{y:β}(ha:a[k]?=some x)(hb:b[k]?=some y):(a.zip b)[k]?=some (x,y):=by
 rw[List.getElem?_zip_eq_some];exact⟨ha,hb⟩
def tH(s:Signed)(b:Text):Bool:=b==[]||(s.set.type != 2&&s.set.type != 1)
def tI(z:aK):List Bool:=(z.J.zip (kr z)).map fun p=>tH p.1 p.2
theorem I5(z:aK):(tI z).length=z.J.length:=by simp[tI,vq]
theorem XN(z:aK)(hl:z.J.length<=1000000)(hn:∀ s∈z.J,s.set.name.length<=1000):aq E 246 [z.enc] (· = .sl ((tI z).map .bool)):=by
 have jw:=vq z;have I6:=I5 z;have hO:tI z=(z.J.zip (kr z)).map fun p=>tH p.1 p.2:=rfl;generalize tI z=O at *;refine eP F246.h ?_
 with_reducible refine ao (OT z hl hn) ?_
 refine gC ?_;generalize kr z=B at *;obtain⟨af,l⟩:=z;simp only at *;refine bj (by simp;omega) ?_;refine gC ?_;refine I.lP l.length ([5,6]++rg 13 30) (fun k=>[(5,.d (.int .i64 k)),(4,.own 1 0)]) (fun k=>[(1,.arr 0 (4,1) ((O.take k++ahC (l.length-k) false).map .bool))]) (fun k=>k<=l.length) (ai4 _) ?_ ?_
 ·refine sY ?_
  refine⟨by simp, ?_⟩;exact sZ
 ·intro k hk IH;refine zA ?_ ?_<;>intro h5
  ·have ai:k<l.length:=zD h5
   obtain⟨x,hx⟩:=aI ai;obtain⟨b,hb⟩:=aI (l:=B) (k:=k) oM;have zu:O[k]?=some (tH x b):=by rw[hO,ahy,zt hx hb];rfl
   have OU:=vu (e:=false) I6 ai;have eH:=vt (e:=false) I6 zu;refine gC ?_;repeat' (first|with_reducible(first|refine aR (bC hx) rfl ?_|refine aR (bC hb) rfl ?_|refine cX ?_|apply ah<;>intro)|refine gE ?_|with_reducible rfl)
   all_goals
    refine bj ⟨by omega,by simp;omega⟩ ?_;refine gC ?_;refine fI (.bool false) oM (by simp only[ai0,ahy];rw[OU];rfl) rfl ?_;refine gC ?_;refine I.back (IH (k+1) oM oM) ?_;refine sY ?_
    refine And.intro (by rw[<- eH];simp only[ai0,alM];congr 2;clear eH OU zu hO IH hb;rcases b with _|⟨c,b⟩<;>simp_all[tH]) ?_;exact sZ
  ·have aA:l.length<=k:=zD h5
   refine gC ?_;simp only[show l.length-k=0 by omega,alR,aj0];rw[ajq oM]
def gj(af:Text)(s:Signed):Bool:=eX s.set&&Nm.under s.set.name af
def jc(q s:Signed):Bool:=decide (pO q.set s.set<0)
def oW(z:aK):Bool:=Nm.valid z.af && !nf z.af && !(decide ((z.J.length:Int)>20000))&&chain (gj z.af) jc none z.J
theorem vv{s:dw}(h:eX s=true):Nm.valid s.name=true:=by
 simp only[eX,ai2]at h;exact h.1.1.1.1.1.1
structure aK.Fits(z:aK):Prop where
 af:z.af.length<=maxLen
 J:∀ s∈z.J,s.set.Fits
theorem OV(z:aK)(hf:z.Fits):aq E 158 [z.enc] (· = .bool (oW z)):=by
 obtain⟨af,l⟩:=z;have ql:af.length<=maxLen:=hf.af;have jq:∀ s∈l,s.set.Fits:=hf.J;unfold oW;simp only;cases hv:Nm.valid af
 ·refine eP F158.h ?_
  with_reducible refine ao (fA _ ql) ?_
  refine gC ?_;rw[hv];refine aN rfl (gC ?_);refine vT ?_;refine vT ?_;simp
 ·have rT:=dh hv;refine eP F158.h ?_
  with_reducible refine ao (fA _ ql) ?_
  refine gC ?_;rw[hv];refine aP rfl (gC ?_)
  with_reducible refine ao (Eo af oM) ?_
  refine gC ?_;cases hw:nf af
  case true =>
   refine vT ?_;refine vT ?_;simp
  refine vF ?_;apply ah<;>intro h3
  ·refine gC ?_;simp only[aiO]at h3;rw[h3];simp
  ·simp only[aiO]at h3;rw[h3];simp only[ali,aja];have vw:l.length<=20000:=by simp at h3;omega
   refine gC ?_;refine I.lP l.length ([2,3,4]++rg 20 40) (fun k=>[(3,.d (.int .i64 k))]) (fun _=>[]) (fun k=>k<=l.length/\chain (gj af) jc none l=chain (gj af) jc (bS l k) (l.drop k)/\∀ q,bS l k=some q->eX q.set=true) ⟨ai4 _,rfl,fun q h=>by simp[bS]at h⟩ ?_ ?_
   ·exact sZ
   ·intro k hk IH;refine zA ?_ ?_<;>intro h5
    ·have ai:k<l.length:=zD h5
     obtain⟨x,hx⟩:=aI ai;have aJ:=xl (ok:=gj af) (rel:=jc) hx;rw[<- hk.2.1]at aJ;have jd:=jq x (aiQ hx);have pQ:bS l (k+1)=some x:=by simp[bS,hx]
     cases hs:eX x.set
     ·refine gC ?_;refine aR (bC hx) rfl (gC ?_);refine dU ?_;refine ax (zp x.set jd) (gD ?_);rw[hs];refine aN rfl (gD ?_);repeat' (first|with_reducible(first|refine cX ?_|apply ah<;>intro)|refine gE ?_|with_reducible rfl)
      rw[aJ,gj,hs];simp
     ·have cV:=vv hs;have iO:=dh cV;refine gC ?_;refine aR (bC hx) rfl (gC ?_);refine dU ?_;refine ax (zp x.set jd) (gD ?_);rw[hs];refine aP rfl (gD ?_);refine ax (rN x.set.name af oM oM) (gD ?_);rcases alL k with cb|cb
      ·have dM:bS l k=none:=by simp[bS,cb]
       rw[dM]at aJ;dsimp only at aJ;rw[alr]at aJ;repeat' (first|with_reducible(first|refine cX ?_|apply ah<;>intro)|refine gE ?_|with_reducible rfl)
       all_goals first
        |(have bI : gj af x=false := by clear aJ hk IH;simp_all[gj]
          rw[aJ, bI, ald]
          done)
        |(exfalso;clear aJ hk IH;simp_all;done)
        |skip
       all_goals
        refine gC ?_;refine I.back (IH (k+1) ⟨by omega,by rw[aJ,show gj af x=true by clear aJ hk IH;simp_all[gj],aja],fun q hq=>by rw[pQ]at hq;cases hq;exact hs⟩ oM) ?_;exact sZ
      ·obtain⟨q,hq,dM⟩:=tF cb hk.1;have Ey:=vv (hk.2.2 q dM);rw[dM]at aJ;repeat' (first|with_reducible(first|refine aR (nP hq cb oM) rfl ?_|refine cC (OF q.set x.set Ey cV) ?_|refine cX ?_|apply ah<;>intro)|refine gE ?_|with_reducible rfl)
       all_goals first
        |(have bI : (gj af x && jc q x)=false := by clear aJ hk IH;simp_all[gj, jc]
          rw[aJ, bI, ald]
          done)
        |(exfalso;clear aJ hk IH;simp_all;omega)
        |skip
       all_goals
        refine gC ?_;refine I.back (IH (k+1) ⟨by omega,by rw[aJ,show(gj af x&&jc q x)=true by clear aJ hk IH;simp_all[gj,jc],aja],fun q hq=>by rw[pQ]at hq;cases hq;exact hs⟩ oM) ?_;exact sZ
    ·have aA:l.length<=k:=zD h5
     refine gC ?_;rw[hk.2.1,aje aA];rfl
def rU(s:Signed)(b:Text):Bool := !(b != []&&s.set.type != 1 && !(b != []&&s.set.name==b)) && !((b != []&&s.set.name==b)&&s.set.type != 1&&s.set.type != 2&&s.set.type != 6&&s.set.type != 8) && !(s.set.type==6 && !(b != []&&s.set.name==b))
def BT(z:aK):Bool:=(z.J.zip (kr z)).all fun p=>rU p.1 p.2
theorem OW(z:aK)(hl:z.J.length<=1000000)(hn:∀ s∈z.J,s.set.name.length<=1000):aq E 161 [z.enc] (· = .bool (BT z)):=by
 have jw:=vq z;unfold BT;refine eP F161.h ?_
 with_reducible refine ao (OT z hl hn) ?_
 refine gC ?_;generalize kr z=B at *;obtain⟨af,l⟩:=z;simp only at *;refine I.lP l.length ([2,4,5,6]++rg 9 69) (fun k=>[(4,.d (.int .i64 k))]) (fun _=>[]) (fun k=>k<=l.length/\((l.zip B).take k).all (fun p=>rU p.1 p.2)=true) ⟨ai4 _,rfl⟩ ?_ ?_
 ·exact sZ
 ·intro k hk IH;refine zA ?_ ?_<;>intro h5
  ·have ai:k<l.length:=zD h5
   obtain⟨x,hx⟩:=aI ai;obtain⟨b,hb⟩:=aI (l:=B) (k:=k) oM;have hz:=zt hx hb;refine gC ?_;refine aR (bC hx) rfl (gC ?_);refine dU ?_;repeat' (first|with_reducible(first|refine aR (bC hb) rfl ?_|refine cX ?_|apply ah<;>intro)|refine gE ?_|with_reducible rfl)
   all_goals first
    |(rw[dK hz (by clear hz hb hk IH;rcases b with _|⟨c,b⟩<;>simp_all[rU])];done)
    |(exfalso;clear hz hb hk IH;rcases b with _|⟨c,b⟩<;>simp_all;done)
    |skip
   all_goals
    refine gC ?_;refine I.back (IH (k+1) ⟨by omega,ea hk.2 hz (by clear hz hb hk IH;rcases b with _|⟨c,b⟩<;>simp_all[rU])⟩ oM) ?_;exact sZ
  ·have aA:l.length<=k:=zD h5
   refine gC ?_;rw[nb hk.2 (by simp;omega)]
def xo(af:Text)(s:Signed)(o:Bool):Bool:=kX s.sigs af && !(!o&&decide ((s.sigs.length:Int)>0))
def Ez(z:aK):Bool:=(z.J.zip (tI z)).all fun p=>xo z.af p.1 p.2
theorem OX(z:aK)(hl:z.J.length<=1000000)(hn:∀ s∈z.J,s.set.name.length<=1000):aq E 162 [z.enc] (· = .bool (Ez z)):=by
 have I6:=I5 z;unfold Ez;refine eP F162.h ?_
 with_reducible refine ao (XN z hl hn) ?_
 refine gC ?_;generalize tI z=O at *;obtain⟨af,l⟩:=z;simp only at *;refine I.lP l.length ([2,4]++rg 7 34) (fun k=>[(4,.d (.int .i64 k))]) (fun _=>[]) (fun k=>k<=l.length/\((l.zip O).take k).all (fun p=>xo af p.1 p.2)=true) ⟨ai4 _,rfl⟩ ?_ ?_
 ·exact sZ
 ·intro k hk IH;refine zA ?_ ?_<;>intro h5
  ·have ai:k<l.length:=zD h5
   obtain⟨x,hx⟩:=aI ai;obtain⟨b,hb⟩:=aI (l:=O) (k:=k) oM;have hz:=zt hx hb;refine gC ?_;refine dU ?_;repeat' (first|with_reducible(first|refine aR (bC hx) rfl ?_|refine aR (bC hb) rfl ?_|refine cC (IZ _ _) ?_|refine cX ?_|apply ah<;>intro)|refine gE ?_|with_reducible rfl)
   all_goals first
    |(rw[dK hz (by clear hz hb hk IH;simp_all[xo])];done)
    |(exfalso;clear hz hb hk IH;simp_all;done)
    |skip
   all_goals
    refine gC ?_;refine I.back (IH (k+1) ⟨by omega,ea hk.2 hz (by clear hz hb hk IH;simp_all[xo])⟩ oM) ?_;exact sZ
  ·have aA:l.length<=k:=zD h5
   refine gC ?_;rw[nb hk.2 (by simp;omega)]
def dN(z:aK):Bool:=oW z&&(tG z&&(nU [] none z.J&&(BT z&&Ez z)))
theorem zw{α:Type}{ok:α->Bool}{rel:α->α->Bool}:∀ {p:Option α} {l:List α},chain ok rel p l=true->∀ x∈l,ok x=true
 |_,[],_,x,hx=>by simp at hx
 |p,y::l,h,x,hx=>by
  simp only[chain,ai2]at h;rcases ai3.1 hx with rfl|hx
  ·exact h.1.1
  ·exact zw h.2 x hx
theorem zx{z:aK}(h:oW z=true):z.J.length<=20000/\(∀ s∈z.J,gj z.af s=true)/\Nm.valid z.af=true:=by
 simp only[oW,ai2]at h;refine⟨by have:=h.1.2;simp at this;omega,zw h.2,h.1.1.1⟩
theorem XO{af:Text}{s:Signed}(h:gj af s=true):s.set.name.length<=60:=by
 simp only[gj,ai2]at h;exact dh (vv h.1)
theorem EA(z:aK)(hf:z.Fits):aq E 93 [z.enc] (· = .bool (dN z)):=by
 unfold dN;cases h1:oW z
 ·have bW:=OV z hf;rw[h1]at bW;refine eP F93.h ?_;repeat' (first|with_reducible(first|refine cC bW ?_|refine cX ?_|apply ah<;>intro)|refine gE ?_|with_reducible rfl)
  all_goals simp_all
 ·obtain⟨g1,g2,-⟩:=zx h1;have gl:z.J.length<=1000000:=by omega
  have gn:∀ s∈z.J,s.set.name.length<=1000:=fun s hs=>by have:=XO (g2 s hs);omega
  have bW:=OV z hf;rw[h1]at bW;refine eP F93.h ?_;repeat' (first|with_reducible(first|refine cC bW ?_|refine cC (OO z oM) ?_|refine cC (OP z oM) ?_|refine cC (OW z gl gn) ?_|refine cC (OX z gl gn) ?_|refine cX ?_|apply ah<;>intro)|refine gE ?_|with_reducible rfl)
  all_goals simp_all
theorem OY(t:Int)(af:Bool):aq E 198 [.int .i64 t,.bool af] (· = .bool (xm t af)):=by
 refine eP Tryz.func198 ?_;repeat' (first|with_reducible(first|refine cX ?_|apply ah<;>intro)|refine gA Tryz.func198 ?_|refine gB ?_|with_reducible rfl)
 all_goals (cases af<;>simp_all[xm])
theorem OZ(l:List dE)(af:Text):aq E 199 [rI l,.str af] (· = .bool (kX l af)):=by
 unfold kX;have hg:∃ g0,g0=l.headD BR:=⟨_,rfl⟩;obtain⟨g0,hg⟩:=hg;rw[<- hg];refine eP F199.h ?_;apply ah<;>intro h1
 ·refine gC ?_;simp only[aiO]at h1;rw[decide_eq_false (by simp at h1;omega),ald]
 ·have h6:l.length<=6:=by simp at h1;omega
  rw[decide_eq_true oM,aja];refine gC ?_;refine I.lP l.length ([4,5,6]++rg 12 76) (fun k=>[(12,.d (.int .i64 k))]) (fun _=>[]) (fun k=>k<=l.length/\chain (ep af g0) gX none l=chain (ep af g0) gX (bS l k) (l.drop k)) ⟨ai4 _,rfl⟩ ?_ ?_
  ·exact sZ
  ·intro k hk IH;refine zA ?_ ?_<;>intro h5
   ·have ai:k<l.length:=zD h5
    obtain⟨x,hx⟩:=aI ai;have h0:=IY ai;rw[<- hg]at h0;have aJ:=xl (ok:=ep af g0) (rel:=gX) hx;rw[<- hk.2]at aJ;rcases alL k with cb|cb
    ·have dM:bS l k=none:=by simp[bS,cb]
     rw[dM]at aJ;dsimp only at aJ;rw[alr]at aJ;have EB:x=g0:=by subst cb;rw[hx]at h0;exact Option.some.inj h0
     refine gC ?_;repeat' (first|with_reducible(first|refine aR (bC hx) rfl ?_|refine cX ?_|apply ah<;>intro)|refine gE ?_|with_reducible rfl)
     all_goals first
      |(have bI : ep af g0 x=false := by clear aJ hk IH hg;simp_all[ep]<;>(intros;omega)
        rw[aJ, bI, ald]
        done)
      |skip
     refine gC ?_;refine dU ?_;repeat' (first|with_reducible(first|refine aR (bC hx) rfl ?_|refine aR (tr h0) rfl ?_|refine cX ?_|apply ah<;>intro)|refine gE ?_|with_reducible rfl)
     all_goals first
      |(exfalso;clear aJ hk IH hg;simp_all;done)
      |skip
     all_goals
      refine gC ?_;refine I.back (IH (k+1) ⟨by omega,by rw[aJ,show ep af g0 x=true by clear aJ hk IH hg;simp_all[ep]<;>omega,aja]⟩ oM) ?_;exact sZ
    ·obtain⟨q,hq,dM⟩:=tF cb hk.1;rw[dM]at aJ;refine gC ?_;repeat' (first|with_reducible(first|refine aR (bC hx) rfl ?_|refine cX ?_|apply ah<;>intro)|refine gE ?_|with_reducible rfl)
     all_goals first
      |(have bI : ep af g0 x=false := by clear aJ hk IH hg;simp_all[ep]<;>(intros;omega)
        rw[aJ, bI, ald, ald]
        done)
      |skip
     refine gC ?_;refine dU ?_;repeat' (first|with_reducible(first|refine aR (bC hx) rfl ?_|refine aR (tr h0) rfl ?_|refine aR (nP hq cb oM) rfl ?_|refine cX ?_|apply ah<;>intro)|refine gE ?_|with_reducible rfl)
     all_goals first
      |(have bI : (ep af g0 x && gX q x)=false := by clear aJ hk IH hg;simp_all[ep, gX]<;>(intros;omega)
        rw[aJ, bI, ald]
        done)
      |(exfalso;clear aJ hk IH hg;simp_all;omega)
      |skip
     all_goals
      refine gC ?_;refine I.back (IH (k+1) ⟨by omega,by rw[aJ,show(ep af g0 x&&gX q x)=true by clear aJ hk IH hg;simp_all[ep,gX]<;>omega,aja]⟩ oM) ?_;exact sZ
   ·have aA:l.length<=k:=zD h5
    refine gC ?_;rw[hk.2,aje aA];rfl
@[reducible] def BU (z : aK) (b : List Text) : DV := .agg [.str z.af, tj z.J, .sl (b.map .str)]
theorem XP(z:aK)(B:List Text)(hB:B.length=z.J.length)(hl:z.J.length<=1000000):aq E 129 [BU z B] (· = .bool ((z.J.zip B).all fun p=>rU p.1 p.2)):=by
 obtain⟨af,l⟩:=z;simp only at *;refine eP F129.h ?_;refine I.lP l.length (rg 2 4++rg 11 39) (fun k=>[(11,.d (.int .i64 k))]) (fun _=>[]) (fun k=>k<=l.length/\((l.zip B).take k).all (fun p=>rU p.1 p.2)=true) ⟨ai4 _,rfl⟩ ?_ ?_
 ·exact sZ
 ·intro k hk IH;refine zA ?_ ?_<;>intro h5
  ·have ai:k<l.length:=zD h5
   obtain⟨x,hx⟩:=aI ai;obtain⟨b,hb⟩:=aI (l:=B) (k:=k) oM;have hz:=zt hx hb;refine gC ?_;repeat' (first|with_reducible(first|refine aR (bC hx) rfl ?_|refine aR (bC hb) rfl ?_|refine cX ?_|apply ah<;>intro)|refine gE ?_|with_reducible rfl)
   all_goals first
    |(have bI : rU x b=false := by clear hz hb hk IH hx;obtain⟨⟨nm, ty, lf, dt⟩, sg⟩ := x;rcases b with _|⟨c, b⟩<;>simp_all[rU]<;>first|(rintro rfl;simp_all;done)|(intro h;exact absurd h.symm (by assumption))|(subst_vars;simp_all;done)|(intros;simp_all;done)
      rw[dK hz bI]
      done)
    |(exfalso;clear hz hb hk IH;rcases b with _|⟨c,b⟩<;>simp_all;done)
    |skip
   all_goals
    refine gC ?_;refine I.back (IH (k+1) ⟨by omega,ea hk.2 hz (by clear hz hb hk IH hx;obtain⟨⟨nm,ty,lf,dt⟩,sg⟩:=x;rcases b with _|⟨c,b⟩<;>simp_all[rU]<;>first|(rintro rfl;simp_all;done)|(intro h;exact absurd h.symm (by assumption))|(subst_vars;simp_all;done)|(intros;simp_all;done))⟩ oM) ?_;exact sZ
  ·have aA:l.length<=k:=zD h5
   refine gC ?_;rw[nb hk.2 (by simp;omega)]
def vx(s:Signed)(b:Text):Bool := !(!tH s b&&decide ((s.sigs.length:Int)>0))
theorem XQ(z:aK)(B:List Text)(hB:B.length=z.J.length)(hl:z.J.length<=1000000):aq E 130 [BU z B] (· = .bool ((z.J.zip B).all fun p=>vx p.1 p.2)):=by
 obtain⟨af,l⟩:=z;simp only at *;refine eP F130.h ?_;refine I.lP l.length (rg 2 4++rg 11 31) (fun k=>[(11,.d (.int .i64 k))]) (fun _=>[]) (fun k=>k<=l.length/\((l.zip B).take k).all (fun p=>vx p.1 p.2)=true) ⟨ai4 _,rfl⟩ ?_ ?_
 ·exact sZ
 ·intro k hk IH;refine zA ?_ ?_<;>intro h5
  ·have ai:k<l.length:=zD h5
   obtain⟨x,hx⟩:=aI ai;obtain⟨b,hb⟩:=aI (l:=B) (k:=k) oM;have hz:=zt hx hb;refine gC ?_;repeat' (first|with_reducible(first|refine aR (bC hx) rfl ?_|refine aR (bC hb) rfl ?_|refine cX ?_|apply ah<;>intro)|refine gE ?_|with_reducible rfl)
   all_goals first
    |(rw[dK hz (by clear hz hb hk IH;rcases b with _|⟨c,b⟩<;>simp_all[vx,tH])];done)
    |(exfalso;clear hz hb hk IH;rcases b with _|⟨c,b⟩<;>simp_all;done)
    |skip
   all_goals
    refine gC ?_;refine I.back (IH (k+1) ⟨by omega,ea hk.2 hz (by clear hz hb hk IH;rcases b with _|⟨c,b⟩<;>simp_all[vx,tH])⟩ oM) ?_;exact sZ
  ·have aA:l.length<=k:=zD h5
   refine gC ?_;rw[nb hk.2 (by simp;omega)]
theorem XR(z:aK)(B:List Text)(hl:z.J.length<=1000000):aq E 131 [BU z B] (· = .bool (z.J.all fun s=>kX s.sigs z.af)):=by
 obtain⟨af,l⟩:=z;simp only at *;refine eP F131.h ?_;refine I.lP l.length ([2,4]++rg 10 13) (fun k=>[(10,.d (.int .i64 k))]) (fun _=>[]) (fun k=>k<=l.length/\(l.take k).all (fun s=>kX s.sigs af)=true) ⟨ai4 _,rfl⟩ ?_ ?_
 ·exact sZ
 ·intro k hk IH;refine zA ?_ ?_<;>intro h5
  ·have ai:k<l.length:=zD h5
   obtain⟨x,hx⟩:=aI ai;refine gC ?_;repeat' (first|with_reducible(first|refine aR (bC hx) rfl ?_|refine cC (OZ _ _) ?_|refine cX ?_|apply ah<;>intro)|refine gE ?_|with_reducible rfl)
   all_goals first
    |(rw[dK hx (by simp_all)];done)
    |skip
   all_goals
    refine gC ?_;exact I.back (IH (k+1) ⟨by omega,ea hk.2 hx (by simp_all)⟩ oM) sZ
  ·have aA:l.length<=k:=zD h5
   refine gC ?_;rw[nb hk.2 aA]
def vy(p:Option Text)(s:Signed)(t:Option Signed):Bool:=s.set.type != 3||(p != some s.set.name&&(match t with|none=>true|some t => !(t.set.name==s.set.name&&t.set.type != 8)))
def lO:Option Text->List Signed->Bool
 |_,[]=>true
 |p,s::l=>vy p s l.head? && lO (some s.set.name) l
theorem XS{l:List Signed}{k:Nat}{x:Signed}(hx:l[k]?=some x):lO (bS (l.map (·.set.name)) k) (l.drop k)=(vy (bS (l.map (·.set.name)) k) x l[k+1]? && lO (bS (l.map (·.set.name)) (k+1)) (l.drop (k+1))):=by
 have hk:=aW hx;rw[ajf hk];have e1:l[k]=x:=by simpa [hk]using hx
 have e2:bS (l.map (·.set.name)) (k+1)=some x.set.name:=by simp[bS,hx]
 have e3:(l.drop (k+1)).head?=l[k+1]? := by rw[List.head?_drop]
 rw[e1,e2,lO,e3]
theorem XT(z:aK)(B:List Text)(hl:z.J.length<=1000000):aq E 128 [BU z B] (· = .bool (lO none z.J)):=by
 obtain⟨af,l⟩:=z;simp only at *;refine eP F128.h ?_;refine I.lP l.length ([2,3,4]++rg 10 65) (fun k=>[(10,.d (.int .i64 k))]) (fun _=>[]) (fun k=>k<=l.length/\lO none l=lO (bS (l.map (·.set.name)) k) (l.drop k)) ⟨ai4 _,rfl⟩ ?_ ?_
 ·exact sZ
 ·intro k hk IH;refine zA ?_ ?_<;>intro h5
  ·have ai:k<l.length:=zD h5
   obtain⟨x,hx⟩:=aI ai;have aJ:=XS hx;rw[<- hk.2]at aJ;have hw:IntKind.i64.wrap ((k:Int)+1)=((k+1:Nat):Int):=by rw[wrap64 oM oM];omega
   refine gC ?_;refine aR (bC hx) rfl (gC ?_);apply ah<;>intro h6
   ·refine gC ?_;refine I.back (IH (k+1) ⟨by omega,by rw[aJ];simp only[vy,h6,Bool.true_or,aja]⟩ oM) ?_;exact sZ
   ·have e1:vy (bS (l.map (·.set.name)) k) x l[k+1]?=(bS (l.map (·.set.name)) k != some x.set.name&&(match l[k+1]? with|none=>true|some t => !(t.set.name==x.set.name&&t.set.type != 8))):=by simp only[vy,h6,Bool.false_or]
    rw[e1]at aJ;clear e1;rcases alL k with cb|cb
    ·have dM:bS (l.map (·.set.name)) k=none:=by simp[bS,cb]
     rw[dM]at aJ;refine gC ?_;refine dU ?_;refine aP (by simp;omega) ?_;refine gD ?_;refine gC ?_;refine vF ?_;refine dU ?_;by_cases dB:k+1<l.length
     ·obtain⟨t,ht⟩:=aI dB;rw[ht]at aJ;refine aN (by rw[hw];simp;omega) ?_;refine gD ?_;repeat' (first|with_reducible(first|refine aR (at_next ht oM) rfl ?_|refine cX ?_|apply ah<;>intro)|refine gE ?_|with_reducible rfl)
      all_goals first
       |(rw[aJ];clear aJ hk IH dM;simp_all;done)
       |skip
      all_goals
       refine gC ?_;refine I.back (IH (k+1) ⟨by omega,by rw[aJ];clear aJ hk IH dM;simp_all⟩ oM) ?_;exact sZ
     ·have ht:l[k+1]?=none:=aht oM;rw[ht]at aJ;refine aP (by rw[hw];simp;omega) ?_;refine gD ?_;repeat' (first|with_reducible(first|refine cX ?_|apply ah<;>intro)|refine gE ?_|with_reducible rfl)
      refine gC ?_;refine I.back (IH (k+1) ⟨by omega,by rw[aJ];clear aJ hk IH dM;simp_all⟩ oM) ?_;exact sZ
    ·obtain⟨q,hq,-⟩:=tF cb hk.1;have dM:bS (l.map (·.set.name)) k=some q.set.name:=by simp[bS,hq];omega
     rw[dM]at aJ;refine gC ?_;refine dU ?_;refine aN (by simp;omega) ?_;refine gD ?_;refine aR (nP hq cb oM) rfl (gD ?_);refine gC ?_;apply ah<;>intro h7
     ·refine gC ?_;rw[aJ];clear aJ hk IH dM;simp_all
     ·refine gC ?_;refine dU ?_;by_cases dB:k+1<l.length
      ·obtain⟨t,ht⟩:=aI dB;rw[ht]at aJ;refine aN (by rw[hw];simp;omega) ?_;refine gD ?_;repeat' (first|with_reducible(first|refine aR (at_next ht oM) rfl ?_|refine cX ?_|apply ah<;>intro)|refine gE ?_|with_reducible rfl)
       all_goals first
        |(rw[aJ];clear aJ hk IH dM;simp_all;done)
        |skip
       all_goals
        refine gC ?_;refine I.back (IH (k+1) ⟨by omega,by rw[aJ];clear aJ hk IH dM;simp_all⟩ oM) ?_;exact sZ
      ·have ht:l[k+1]?=none:=aht oM;rw[ht]at aJ;refine aP (by rw[hw];simp;omega) ?_;refine gD ?_;repeat' (first|with_reducible(first|refine cX ?_|apply ah<;>intro)|refine gE ?_|with_reducible rfl)
       refine gC ?_;refine I.back (IH (k+1) ⟨by omega,by rw[aJ];clear aJ hk IH dM;simp_all⟩ oM) ?_;exact sZ
  ·have aA:l.length<=k:=zD h5
   refine gC ?_;rw[hk.2,aje aA];rfl
theorem O0(c d:UInt8):c<d\/c=d\/d<c:=by
 rcases ajV c.toNat d.toNat with h|h|h
 ·exact .inl (UInt8.lt_iff_toNat_lt.2 h)
 ·exact .inr (.inl (UInt8.toNat_inj.1 h))
 ·exact .inr (.inr (UInt8.lt_iff_toNat_lt.2 h))
theorem I7{c d:UInt8}{a b:Text}:Op.bytesLess (c::a) (d::b)=true↔c<d\/(c=d/\Op.bytesLess a b=true):=by
 simp[Op.bytesLess]
theorem I8:∀ {a b c:Text},Op.bytesLess a b=true->Op.bytesLess b c=true->Op.bytesLess a c=true
 |_,[],_,h,_=>by simp[Op.bytesLess]at h
 |_,_::_,[],_,h=>by simp[Op.bytesLess]at h
 |[],_::_,_::_,_,_=>by simp[Op.bytesLess]
 |x::a,y::b,z::c,h,k=>by
  rw[I7]at h k ⊢;rcases h with h|⟨rfl,h⟩
  ·rcases k with k|⟨rfl,k⟩
   ·exact .inl (UInt8.lt_trans h k)
   ·exact .inl h
  ·rcases k with k|⟨rfl,k⟩
   ·exact .inl k
   ·exact .inr ⟨rfl,I8 h k⟩
theorem O1:∀ (a b:Text),Op.bytesLess a b=true\/a=b\/Op.bytesLess b a=true
 |[],[] => .inr (.inl rfl)
 |[],_::_ => .inl (by simp[Op.bytesLess])
 |_::_,[] => .inr (.inr (by simp[Op.bytesLess]))
 |c::a,d::b=>by
  rw[I7,I7];rcases O0 c d with h|rfl|h
  ·exact .inl (.inl h)
  ·rcases O1 a b with h|rfl|h
   ·exact .inl (.inr ⟨rfl,h⟩)
   ·exact .inr (.inl rfl)
   ·exact .inr (.inr (.inr ⟨rfl,h⟩))
  ·exact .inr (.inr (.inl h))
theorem I9{a b:Text}(h:Op.bytesLess a b=true):Op.bytesLess b a=false:=by
 rw[<- ak5];intro k;have:=I8 h k;rw[nd]at this;cases this
theorem O2{a b:Text}(h:Op.bytesLess a b=true):a≠b:=by
 rintro rfl;rw[nd]at h;cases h
theorem O3:∀ (a b:Text),Lib.compareBytes a b=if Op.bytesLess a b then -1 else if a==b then 0 else 1
 |[],[]=>by simp[Lib.compareBytes,Op.bytesLess]
 |[],_::_=>by simp[Lib.compareBytes,Op.bytesLess]
 |_::_,[]=>by simp[Lib.compareBytes,Op.bytesLess]
 |c::a,d::b=>by
  simp only[Lib.compareBytes,Op.bytesLess];rcases O0 c d with h|rfl|h
  ·simp[h]
  ·simp[O3 a b]
  ·have h1:¬ c<d:=UInt8.not_lt.2 (UInt8.le_of_lt h);have h2:¬ c=d:=by rintro rfl;exact absurd h sP
   simp[h,h1,h2]
theorem tJ(x y:Text)(l m:List Text):(Op.bytesLess x y=true/\cmpL (x::l) (y::m) = -1)\/(x=y/\cmpL (x::l) (y::m)=cmpL l m)\/(Op.bytesLess y x=true/\cmpL (x::l) (y::m)=1):=by
 rcases O1 x y with h|rfl|h
 ·exact .inl ⟨h,by simp[cmpL,h]⟩
 ·exact .inr (.inl ⟨rfl,by simp[cmpL,nd]⟩)
 ·exact .inr (.inr ⟨h,by simp[cmpL,I9 h,(O2 h).symm]⟩)
theorem O4:∀ (l:List Text),cmpL l l=0
 |[]=>rfl
 |x::l=>by simp[cmpL,nd,O4 l]
theorem O5:∀ {l m:List Text},cmpL l m=0->l=m
 |[],[],_=>rfl
 |[],_::_,h=>by simp[cmpL]at h
 |_::_,[],h=>by simp[cmpL]at h
 |x::l,y::m,h=>by
  rcases tJ x y l m with⟨-,e⟩|⟨rfl,e⟩|⟨-,e⟩
  ·rw[e]at h;cases h
  ·rw[e]at h;rw[O5 h]
  ·rw[e]at h;cases h
theorem O6:∀ (l m:List Text),cmpL m l = - cmpL l m
 |[],[]=>rfl
 |[],_::_=>rfl
 |_::_,[]=>rfl
 |x::l,y::m=>by
  rcases tJ x y l m with⟨h,e⟩|⟨rfl,e⟩|⟨h,e⟩
  ·rw[e];simp[cmpL,I9 h,(O2 h).symm]
  ·rw[e,<- O6 l m];simp[cmpL,nd]
  ·rw[e];simp[cmpL,h]
theorem O7:∀ {a b c:List Text},cmpL a b<0->cmpL b c<0->cmpL a c<0
 |[],[],_,h,_=>by simp[cmpL]at h
 |_::_,[],_,h,_=>by simp[cmpL]at h
 |_,_::_,[],_,h=>by simp[cmpL]at h
 |[],_::_,_::_,_,_=>by simp[cmpL]
 |x::a,y::b,z::c,h,k=>by
  rcases tJ x y a b with⟨h1,e1⟩|⟨rfl,e1⟩|⟨h1,e1⟩
  ·rcases tJ y z b c with⟨h2,e2⟩|⟨rfl,e2⟩|⟨h2,e2⟩
   ·simp[cmpL,I8 h1 h2]
   ·simp[cmpL,h1]
   ·rw[e2]at k;simp at k
  ·rcases tJ x z b c with⟨h2,e2⟩|⟨rfl,e2⟩|⟨h2,e2⟩
   ·simp[cmpL,h2]
   ·rw[e1]at h;rw[e2]at k;have:=O7 h k;rcases tJ x x a c with⟨h3,-⟩|⟨-,e3⟩|⟨h3,-⟩
    ·rw[nd]at h3;cases h3
    ·rw[e3];exact this
    ·rw[nd]at h3;cases h3
   ·rw[e2]at k;simp at k
  ·rw[e1]at h;simp at h
theorem O8:∀ {c m n:List Text},cmpL c m<=0->cmpL m n<=0->c <+: n->c <+: m
 |[],_,_,_,_,_=>List.nil_prefix
 |_::_,[],_,h,_,_=>by simp[cmpL]at h
 |_::_,_::_,[],_,_,h=>by simp at h
 |x::c,y::m,z::n,h,k,hp=>by
  rw[alS]at hp;obtain⟨rfl,hp⟩:=hp;rcases tJ x y c m with⟨h1,e1⟩|⟨rfl,e1⟩|⟨h1,e1⟩
  ·rcases tJ y x m n with⟨h2,e2⟩|⟨rfl,e2⟩|⟨h2,e2⟩
   ·have:=I9 h1;rw[h2]at this;cases this
   ·rw[nd]at h1;cases h1
   ·rw[e2]at k;simp at k
  ·rcases tJ x x m n with⟨h2,-⟩|⟨-,e2⟩|⟨h2,-⟩
   ·rw[nd]at h2;cases h2
   ·rw[alS];rw[e1]at h;rw[e2]at k;exact⟨rfl,O8 h k hp⟩
   ·rw[nd]at h2;cases h2
  ·rw[e1]at h;simp at h
theorem O9:∀ {c n:List Text},c <+: n->cmpL c n<=0
 |[],[],_=>by simp[cmpL]
 |[],_::_,_=>by simp[cmpL]
 |_::_,[],h=>by simp at h
 |x::c,y::n,h=>by
  rw[alS]at h;obtain⟨rfl,h⟩:=h;simp only[cmpL,nd,ah0,if_false,beq_self_eq_true,if_true];exact O9 h
theorem qH(a:Text):bH a a=0:=O4 _
theorem rV{a b:Text}(h:bH a b=0):a=b:=IS (List.reverse_inj.1 (O5 h))
theorem BV(a b:Text):bH b a = - bH a b:=O6 _ _
theorem BW{a b c:Text}(h:bH a b<0)(k:bH b c<0):bH a c<0:=O7 h k
theorem BN{s z:Text}:Nm.under s z=true↔(Nm.labels z).reverse <+: (Nm.labels s).reverse:=by
 simp[Nm.under,List.reverse_prefix]
theorem zy{c m n:Text}(h:bH c m<=0)(k:bH m n<=0)(hp:Nm.under n c=true):Nm.under m c=true:=BN.2 (O8 h k (BN.1 hp))
theorem BX{c n:Text}(h:Nm.under n c=true):bH c n<=0:=O9 (BN.1 h)
set_option maxHeartbeats 1000000 in
open Go.RowKit in
theorem XU(a b:ByteArray)(w:World):Calls Tryz.prog 341 #[.string a,.string b] w fun e w'=>e=.returned (.int .i64 (Lib.compareBytes a.data.toList b.data.toList))/\w'=w:=by
  go_enter Tryz.func341,Tryz.ntmps341
  go_wp2
  rw[run_callFunc_extern Tryz.func347 (by kernel_rfl) (by kernel_rfl) (by kernel_rfl) (e:=Extern.BytealgCompare.compare) (by kernel_rfl),Lib.run_compareString];simp only[Result.andThen];rw[Oper.upon_value]
  go_wp2
  go_ret
  exact⟨rfl,rfl⟩
theorem XV(a b:Text):aq E 341 [.str a,.str b] (· = .int .i64 (Lib.compareBytes a b)):=by
 unfold aq;refine⟨⟨_,Tryz.func341,rfl,by decide⟩,fun aD w vs _ _ ⟨hl,hv⟩=>?_⟩;obtain⟨u,v,rfl⟩:∃ u v,vs=[u,v]:=by
  match vs,hl with
  |[u,v],_=>exact⟨u,v,rfl⟩
 have h1:=hv 0 (.str a) u rfl rfl;have h2:=hv 1 (.str b) v rfl rfl;cases h1;cases h2;refine(XU ⟨a.toArray⟩ ⟨b.toArray⟩ w).mono fun e w' ⟨h1,h2⟩=>⟨_,_,h1,rfl,?_,h2 ▸ Ext.refl w⟩
 simpa using VD.int _ _
theorem XW(a b:Text):aq E 321 [.str a,.str b] (· = .int .i64 (Lib.compareBytes a b)):=by
 have c1:=XV a b;refine eP Tryz.func321 ?_;refine ao (c1) ?_;refine gO Tryz.func321 ?_
 with_reducible rfl
def PS(more:Bool)(rest:Text)(R:List Text):Prop:=if more then(Nm.split rest).reverse=R else R=[]
theorem XX(t:Text):au E 320 [] [.d (.str t)] (fun x h=>x=.fn (.func 340) [] [.ptr 1 0,.ptr 0 0]/\h=[.cells [.d (.str t)],.cells [.d (.bool (t != [46]))]]):=by
 refine aE ?_;exact⟨rfl,rfl⟩
theorem XY(rest:Text):au E 340 [.cells [.d (.bool false)],.cells [.d (.str rest)]] [.ptr 0 0,.ptr 1 0] (fun x h=>x=.aG [.d (.str []),.d (.bool false)]/\h=[.cells [.d (.bool false)],.cells [.d (.str rest)]]):=by
 refine aE ?_;refine aN dC (gC ?_);exact⟨rfl,rfl⟩
theorem XZ(rest:Text)(hl:rest.length<=60){y:Text}{R:List Text}(h:PS true rest (y::R)):au E 340 [.cells [.d (.bool true)],.cells [.d (.str rest)]] [.ptr 0 0,.ptr 1 0] (fun x h=>x=.aG [.d (.str y),.d (.bool true)]/\∃ m r,h=[.cells [.d (.bool m)],.cells [.d (.str r)]]/\PS m r R/\r.length<=60):=by
 have c1:=Ee rest (by unfold maxLen;omega);obtain⟨i,x,P,e1,e2,e3,e4,e5,e6,e7⟩:=Ef rest;have hw:IntKind.i64.wrap (i+1)=i+1:=wrap64 oM oM;rw[e1]at c1;refine aE ?_;refine aP dC (gC ?_);refine ao (c1) (gC ?_);refine bj ⟨by rw[hw];simp;omega,by rw[hw];simp;omega,by simp⟩ ?_;refine gC ?_;rw[hw];simp only[aiZ,ah8,ai0,akR,e4];have hR:x=y/\P.reverse=R:=by
  have:(Nm.split rest).reverse=y::R:=h;rw[e5]at this
  simpa using this
 obtain⟨rfl,rfl⟩:=hR;apply ah<;>intro h5
 ·refine gC ?_;rw[e6 (of_decide_eq_true h5)];exact⟨rfl,false,rest,rfl,rfl,hl⟩
 ·have h5:0<=i:=zD h5
  refine gC ?_;refine bj ⟨by simp,by simp;omega,by simp;omega⟩ ?_;refine gC ?_;refine⟨rfl,true,rest.take i.toNat,rfl,?_,by simp;omega⟩;rw[e7 h5];rfl
theorem I'(a b:Text)(ha:Nm.valid a=true)(hb:Nm.valid b=true):aq E 267 [.str a,.str b] (· = .aG [.int .i64 (bH a b),.int .i64 0]):=by
 have c1:=xg a (pC (by have:=dh ha;omega));have c2:=xg b (pC (by have:=dh hb;omega));rw[ha]at c1;rw[hb]at c2;have vg:=dh ha;have pN:=dh hb;refine eP F267.h ?_;refine ao (c1) (gC ?_);refine vF ?_;refine ao (c2) (gC ?_);refine vF ?_;apply ah<;>intro h3
 ·obtain rfl:a=b:=zD h3
  refine gC ?_;rw[qH]
 have aL:a≠b:=zD h3
 refine gC ?_;refine lC (XX b) rfl (gC ?_);refine I.rangeFunc (bg rfl) Tryz.func210 rfl dC rfl (fun ll d tt=>?_);refine gC ?_;apply ah<;>intro h4
 ·obtain rfl:a=[46]:=zD h4
  refine gC ?_;refine I.mZ ag F210.h rfl rfl rfl rfl (fun e=>nomatch e) ?_;(conv=>whnf);refine gC ?_;refine I.kq ag F267.h rfl rfl rfl rfl rfl ?_;have:bH [46] b = -1:=by
   have h0:=fun h=>aL (rV (a:=[46]) (b:=b) h);unfold bH at h0 ⊢;rw[show(Nm.labels [46]).reverse=[]from rfl]at h0 ⊢;cases h5:(Nm.labels b).reverse with
   |nil=>rw[h5]at h0;exact absurd rfl h0
   |cons z R=>rfl
  rw[this];rfl
 have hr:a≠[46]:=zD h4
 refine gC ?_;refine I.loop (κ:=Text × Bool × Text × List Text) [4,5,9,10,11,12,13,14,15,16,17,18,19,20,21,22,23,24] (fun x=>[(4,.d (.str x.1))]) (fun x=>[(2,.cells [.d (.str x.2.2.1)]),(3,.cells [.d (.bool x.2.1)])]) (fun x=>x.1.length<=60/\x.2.2.1.length<=60/\PS x.2.1 x.2.2.1 x.2.2.2/\bH a b=cmpL (Nm.split x.1).reverse x.2.2.2) (fun x=>x.1.length) (a,b != [46],b,(Nm.labels b).reverse) ⟨vg,pN,by by_cases h:b=[46]<;>simp[PS,Nm.labels,h],by simp[bH,Nm.labels,hr]⟩ ?_ ?_
 ·exact sZ
 rintro⟨rest,more,rb,R⟩ ⟨k1,k2,k3,k4⟩ IH;simp only at k1 k2 k3 k4;obtain⟨i,x,P,e1,e2,e3,e4,e5,e6,e7⟩:=Ef rest;have c1:=Ee rest (by unfold maxLen;omega);have hw:IntKind.i64.wrap (i+1)=i+1:=wrap64 oM oM;rw[e5,List.reverse_append,List.reverse_singleton,List.singleton_append]at k4;rw[e1]at c1;refine zT ?_;refine ao (c1) (gC ?_);refine bj ⟨by rw[hw];simp;omega,by rw[hw];simp;omega,by simp⟩ ?_;refine gC ?_;rw[hw];simp only[aiZ,ah8,ai0,akR,e4];refine I.yield 0 rfl rfl rfl (bg rfl) (nO (bg rfl)) rfl ?_;(conv=>whnf);refine gC ?_;refine I.begin 0 rfl rfl rfl ?_;(conv=>whnf);refine gC ?_;cases R with
 |nil =>
  obtain rfl:more=false:=by
   cases more
   ·rfl
   ·exact absurd (List.reverse_eq_nil_iff.1 k3) (Nm.pK rb)
  with_reducible refine aX (XY rb) ?_
  refine gC ?_;refine vT ?_;refine I.Ec 0 rfl rfl rfl ?_;(conv=>whnf);refine gC ?_;refine aN dC (gC ?_);refine vT ?_;refine I.mZ ag F210.h rfl rfl rfl rfl (fun e=>nomatch e) ?_;(conv=>whnf);refine gC ?_;refine I.kq ag F267.h rfl rfl rfl rfl rfl ?_;rw[k4];rfl
 |cons y R =>
  obtain rfl:more=true:=by
   cases more
   ·exact absurd k3 (by simp[PS])
   ·rfl
  with_reducible refine lB (XZ rb k2 k3) ?_
  rintro r h1 ⟨rfl,m,rr,rfl,q1,q2⟩;have c3:=XW x y;rw[O3]at c3;refine gC ?_;refine vF ?_;refine ao (c3) (gC ?_);by_cases oR:x=y
  ·subst oR;rw[nd];refine aP sP (gC ?_);refine I.rO 0 rfl rfl rfl ?_;(conv=>whnf);refine gC ?_;refine aP dC (gC ?_);have k5:bH a b=cmpL P.reverse R:=by rw[k4];simp[cmpL,nd]
   apply ah<;>intro h5
   ·refine gC ?_;refine I.mZ ag F210.h rfl rfl rfl rfl (fun e=>nomatch e) ?_;(conv=>whnf);refine gC ?_;refine I.kq ag F267.h rfl rfl rfl rfl rfl ?_;rw[e6 (zD h5)]at k5;have:bH a b = -1:=by
     cases R with
     |nil=>exact absurd (rV k5) aL
     |cons z R=>exact k5
    rw[this];rfl
   ·have h5:0<=i:=zD h5
    refine gC ?_;refine bj ⟨by simp,by simp;omega,by simp;omega⟩ ?_;refine gC ?_;simp only[aiZ,ah8,Int.toNat_zero,List.drop_zero];refine I.back (IH (rest.take i.toNat,m,rr,R) ⟨by simp;omega,q2,q1,by simp only;rw[k5,e7 h5]⟩ (by simp;omega)) ?_;exact sZ
  ·refine aN (by split<;>simp[oR]) ?_;refine gC ?_;refine I.Ec 0 rfl rfl rfl ?_;(conv=>whnf);refine gC ?_;refine aN dC (gC ?_);refine vT ?_;refine I.mZ ag F210.h rfl rfl rfl rfl (fun e=>nomatch e) ?_;(conv=>whnf);refine gC ?_;refine I.kq ag F267.h rfl rfl rfl rfl rfl ?_;have:bH a b=if Op.bytesLess x y=true then -1 else if (x==y)=true then 0 else 1:=by
    rw[k4,cmpL];split
    ·rfl
    ·simp[oR]
   rw[this];rfl
def pR(a:Text)(s:Int)(b:Text)(t:Int):Int:=if a≠b then bH a b else kV s t
theorem O'(a:Text)(s:Int)(b:Text)(t:Int)(ha:Nm.valid a=true)(hb:Nm.valid b=true):aq E 196 [.str a,.int .i64 s,.str b,.int .i64 t] (· = .int .i64 (pR a s b t)):=by
 refine eP Tryz.func196 ?_;repeat' (first|with_reducible(first|refine cC (I' _ _ ha hb) ?_|refine cC (Eh _ _) ?_|refine cX ?_|apply ah<;>intro)|refine gA Tryz.func196 ?_|refine gB ?_|with_reducible rfl)
 all_goals simp_all[pR]
theorem zz(a b:dw):pR a.name a.type b.name b.type=pO a b:=by
 unfold pR pO;by_cases h:a.name=b.name
 ·simp[h,qH]
 ·have:bH a.name b.name≠0:=fun e=>h (rV e);simp[h,this]
def xp(s:Signed)(q:bp):Int:=pR s.set.name s.set.type q.name q.type
theorem X0{a b:Int}:kV a b=0↔a=b:=by
 unfold kV;split
 ·omega
 ·split<;>omega
theorem EC{s:Signed}{q:bp}:(xp s q==0)=cF q s:=by
 rw[Bool.eq_iff_iff,beq_iff_eq];unfold xp pR cF;by_cases h:s.set.name=q.name
 ·simp[h,X0]
 ·have:bH s.set.name q.name≠0:=fun e=>h (rV e);simp[h,this]
def gm(l:List Signed):Prop:=∀ (i j:Nat) (x y:Signed),i<j->l[i]?=some x->l[j]?=some y->pO x.set y.set<0
theorem X1{a b c:Int}(h:kV a b<0)(k:kV b c<0):kV a c<0:=by
 unfold kV at *;repeat' split at h
 all_goals first|omega|skip
 repeat' split at k
 all_goals first|omega|skip
 repeat' split
 all_goals omega
theorem Ja{a b c:Text}{s t u:Int}(h:pR a s b t<0)(k:pR b t c u<0):pR a s c u<0:=by
 unfold pR at *;by_cases e1:a=b
 ·subst e1;simp only[ne_eq,not_true_eq_false,if_false]at h;by_cases e2:a=c
  ·subst e2;simp only[ne_eq,not_true_eq_false,if_false]at k ⊢;exact X1 h k
  ·simp only[ne_eq,e2,not_false_eq_true,if_true]at k ⊢;exact k
 ·simp only[ne_eq,e1,not_false_eq_true,if_true]at h;by_cases e2:b=c
  ·subst e2;simp only[ne_eq,e1,not_false_eq_true,if_true];exact h
  ·simp only[ne_eq,e2,not_false_eq_true,if_true]at k;have:=BW h k;have e3:a≠c:=by
    rintro rfl;rw[qH]at this;omega
   simp only[ne_eq,e3,not_false_eq_true,if_true];exact this
theorem Pb(s:Signed)(q:bp)(hs:Nm.valid s.set.name=true)(hq:Nm.valid q.name=true):aq E 269 [s.enc,q.enc] (· = .int .i64 (xp s q)):=by
 refine eP Tryz.func269 ?_
 with_reducible refine ao (O' _ _ _ _ hs hq) ?_
 refine gO Tryz.func269 ?_;rfl
theorem Pc{i j:Nat}(h:i+j<=4294967296):IntKind.i64.wrap (mT .shr .u64 (IntKind.u64.wrap (IntKind.i64.wrap ((i:Int)+j))) (ak2 1))=(((i+j) / 2:Nat):Int):=by
 rw[wrap64 (n:=(i:Int)+j) oM oM];have e1:IntKind.u64.wrap ((i:Int)+j)=(i:Int)+j:=by
  simp[IntKind.wrap,IntKind.signed,IntKind.bits];omega
 rw[e1];have e2:mT .shr .u64 ((i:Int)+j) (ak2 1)=(((i+j) / 2:Nat):Int):=by
  show((i:Int)+j).fdiv (2 ^ 1)=_;rw[Int.fdiv_eq_ediv_of_nonneg _ dC];omega
 rw[e2,wrap64 oM oM]
theorem X2(l:List Signed)(q:bp)(hl:l.length<=1000000)(hv:∀ s∈l,Nm.valid s.set.name=true)(hq:Nm.valid q.name=true)(hs:gm l) :
  au E 268 [] [.d (tj l),.d q.enc,.fn (.func 269) [] []] (fun a b=>(∃ i:Nat,i<=l.length/\a=.aG [.d (.int .i64 i),.d (.bool (l.any (cF q)))]/\∀ j x,l[j]?=some x->cF q x=true->j=i)/\b=[.cells [.d (.str q.name),.d (.int .i64 q.type)]]):=by
 refine aE ?_;refine I.loop (κ:=Nat × Nat) [9,10,11,15,16,17,18,19,20,21,22,23,24,25,26,27,28,29,30,31,32,33,34] (fun k=>[(9,.d (.int .i64 k.1)),(10,.d (.int .i64 k.2))]) (fun _=>[]) (fun k=>k.1<=k.2/\k.2<=l.length/\(∀ m x,m<k.1->l[m]?=some x->xp x q<0)/\(∀ m x,k.2<=m->l[m]?=some x->¬ xp x q<0)) (fun k=>k.2-k.1) (0,l.length) ⟨ai4 _,Nat.le_refl _,fun m x h=>by omega,fun m x h hx=>by have:=aW hx;omega⟩ ?_ ?_
 ·(conv=>whnf);repeat (first|exact trivial|(refine And.intro (by first|with_reducible rfl|exact congrArg (DV.int .i64) oM|exact congrArg (DV.int .i64) sP|exact congrArg (DV.int .i64) (wrap64 oM oM)|exact congrArg (DV.int .i64) ((wrap64 oM oM).trans oM)) ?_;conv=>whnf))
 ·rintro⟨i,j⟩ hk IH;obtain⟨k1,k2,k3,k4⟩:=hk;simp only at k1 k2 k3 k4;refine zA ?_ ?_<;>intro h5
  ·have ai:i<j:=zD h5
   obtain⟨x,hx⟩:=aI (l:=l) (k:=(i+j) / 2) oM;have cV:=hv x (aiQ hx);have BY:=Pc (i:=i) (j:=j) oM;refine gC ?_;refine bj dC (gC ?_);refine dU ?_;rw[show IntKind.i64.wrap (mT .shr .u64 (IntKind.u64.wrap (IntKind.i64.wrap (((i,j).fst:Int)+((i,j).snd:Int)))) (ak2 1))=(((i+j) / 2:Nat):Int)from BY];refine aR (bC hx) rfl (gD ?_);refine ax (Pb x q cV hq) (gD ?_);refine gC ?_;apply ah<;>intro h6
   ·have hc:xp x q<0:=zD h6
    refine gC ?_;refine I.back (IH ((i+j) / 2+1,j) ⟨by simp only;omega,k2,fun m y hm hy=>?_,k4⟩ (by simp only;omega)) ?_
    ·simp only at hm;rcases ahs m ((i+j) / 2)with h|h
     ·have h1:=hs m ((i+j) / 2) y x h hy hx;rw[<- zz]at h1;exact Ja h1 hc
     ·obtain rfl:m=(i+j) / 2:=by omega
      rw[hx]at hy;cases hy;exact hc
    ·exact sZ
   ·have hc:¬ xp x q<0:=zD h6
    refine gC ?_;refine I.back (IH (i,(i+j) / 2) ⟨by simp only;omega,by simp only;omega,k3,fun m y hm hy=>?_⟩ (by simp only;omega)) ?_
    ·simp only at hm;rcases ahs ((i+j) / 2) m with h|h
     ·intro X3;have h1:=hs ((i+j) / 2) m x y h hx hy;rw[<- zz]at h1;exact hc (Ja h1 X3)
     ·obtain rfl:m=(i+j) / 2:=by omega
      rw[hx]at hy;cases hy;exact hc
    ·exact sZ
  ·have aA:i=j:=by simp at h5;omega
   subst aA;have only:∀ m y,l[m]?=some y->cF q y=true->m=i:=fun m y hy ha=>by
    rw[<- EC,beq_iff_eq]at ha;rcases ajV m i with h|h|h
    ·have:=k3 m y h hy;omega
    ·exact h
    ·obtain⟨x,hx⟩:=aI (l:=l) (k:=i) (by have:=aW hy;omega);have h1:=hs i m x y h hx hy;rw[<- zz]at h1;have h2:=k4 i x (Nat.le_refl _) hx;have h3:pR x.set.name x.set.type q.name q.type<0:=by
      have e:y.set.name=q.name/\y.set.type=q.type:=by
       have:cF q y=true:=by rw[<- EC,beq_iff_eq];exact ha
       simpa [cF]using this
      rw[e.1,e.2]at h1;exact h1
     exact absurd h3 h2
   rcases ahs i l.length with hi|hi
   ·obtain⟨x,hx⟩:=aI hi;have cV:=hv x (aiQ hx);have Jb:l.any (cF q)=cF q x:=by
     cases ha:cF q x
     ·rw[<- ak5,alN];rintro⟨y,hy,BZ⟩;obtain⟨m,hm⟩:=aiN hy;obtain rfl:=only m y hm BZ;rw[hx]at hm;cases hm;rw[ha]at BZ;cases BZ
     ·rw[alN];exact⟨x,aiQ hx,ha⟩
    refine gC ?_;refine dU ?_;refine aN (by simp;omega) ?_;refine gD ?_;refine aR (bC hx) rfl (gD ?_);refine ax (Pb x q cV hq) (gD ?_);refine gC ?_;exact⟨⟨i,by omega,by rw[Jb,<- EC],only⟩,rfl⟩
   ·have Jb:l.any (cF q)=false:=by
     rw[<- ak5,alN];rintro⟨y,hy,BZ⟩;obtain⟨m,hm⟩:=aiN hy;obtain rfl:=only m y hm BZ;have:=aW hm;omega
    refine gC ?_;refine dU ?_;refine aP (by simp;omega) ?_;refine gD ?_;refine gC ?_;exact⟨⟨i,by omega,by rw[Jb],only⟩,rfl⟩
theorem Jc(z:aK)(q:bp)(hl:z.J.length<=1000000)(hv:∀ s∈z.J,Nm.valid s.set.name=true)(hq:Nm.valid q.name=true)(hs:gm z.J) :
  aq E 197 [z.enc,q.enc] (fun r=>∃ i:Nat,i<=z.J.length/\r=.aG [.int .i64 i,.bool (z.J.any (cF q))]/\∀ j x,z.J[j]?=some x->cF q x=true->j=i):=by
 refine eP Tryz.func197 ?_;refine lB (X2 z.J q hl hv hq hs) ?_;rintro r h1 ⟨⟨i,hi,rfl,ho⟩,rfl⟩;refine gO Tryz.func197 ?_;exact⟨i,hi,rfl,ho⟩
theorem Jd{t:Text}(h:Nm.valid t=true):nf t=Nm.jS t:=by
 unfold nf Nm.labels;by_cases hr:t=[46]
 ·subst hr;rfl
 ·rw[if_neg hr];have hp:Nm.parts (Nm.split t)=true:=by
   simp only[Nm.valid,ajX,decide_eq_true_eq,ai2]at h;rcases h with h|h
   ·exact absurd h hr
   ·exact h.2
  cases t with
  |nil=>rfl
  |cons c r =>
   by_cases hc:c=46
   ·subst hc;simp[Nm.split,Nm.parts,Nm.label]at hp
   ·obtain⟨x,u,h1,h2⟩:=Nm.rJ c r hc;rw[h2]at hp ⊢;simp only[Nm.parts,ai2,ajX]at hp;show(c::x==[42])=(c==42);rcases hp.2.1 with hl|hl
    ·have h0:Nm.rK (c::x) 0=true:=by
      simp only[Nm.label,decide_eq_true_eq]at hl;exact hl.2.2 0 sP
     have aL:(c==42)=false:=by
      rw[<- ak5];intro e;have:c=42:=zD e
      subst this;simp[Nm.rK,Nm.Im]at h0
     have X4:c≠42:=zD aL
     rw[aL];simp[X4]
    ·have:c::x=[42]:=zD hl
     injection this with e1 e2;subst e1;subst e2;rfl
theorem ED{s z:Text}(hs:Nm.valid s=true)(hz:Nm.valid z=true):Nm.fZ s z=Nm.under s z:=by simp[Nm.fZ,hs,hz]
theorem Pd(z:aK)(hf:z.Fits):aq E 125 [z.enc] (· = .bool (oW z)):=by
 obtain⟨af,l⟩:=z;have ql:af.length<=maxLen:=hf.af;have jq:∀ s∈l,s.set.Fits:=hf.J;unfold oW;simp only;cases hv:Nm.valid af
 ·refine eP F125.h ?_
  with_reducible refine ao (iP _ ql) ?_
  refine gC ?_;rw[hv];refine aN rfl (gC ?_);refine vT ?_;refine vT ?_;simp
 ·have rT:=dh hv;rw[Jd hv];refine eP F125.h ?_
  with_reducible refine ao (iP _ ql) ?_
  refine gC ?_;rw[hv];refine aP rfl (gC ?_)
  with_reducible refine ao (Ei _ _) ?_
  refine gC ?_;rw[show preB af _=Nm.jS af from Ol af];cases hw:Nm.jS af
  case true =>
   refine vT ?_;refine vT ?_;simp
  refine vF ?_;apply ah<;>intro h3
  ·refine gC ?_;simp only[aiO]at h3;rw[h3];simp
  ·simp only[aiO]at h3;rw[h3];simp only[ali,aja];have vw:l.length<=20000:=by simp at h3;omega
   refine gC ?_;refine I.lP l.length (rg 2 6++rg 30 44) (fun k=>[(30,.d (.int .i64 k))]) (fun _=>[]) (fun k=>k<=l.length/\chain (gj af) jc none l=chain (gj af) jc (bS l k) (l.drop k)/\∀ q,bS l k=some q->eX q.set=true) ⟨ai4 _,rfl,fun q h=>by simp[bS]at h⟩ ?_ ?_
   ·exact sZ
   ·intro k hk IH;refine zA ?_ ?_<;>intro h5
    ·have ai:k<l.length:=zD h5
     obtain⟨x,hx⟩:=aI ai;have aJ:=xl (ok:=gj af) (rel:=jc) hx;rw[<- hk.2.1]at aJ;have jd:=jq x (aiQ hx);have pQ:bS l (k+1)=some x:=by simp[bS,hx]
     cases hs:eX x.set
     ·refine gC ?_;refine aR (bC hx) rfl (gC ?_)
      with_reducible refine ao (vj x.set jd) ?_
      refine gC ?_;rw[hs];refine aN rfl (gC ?_);rw[aJ,gj,hs];simp
     ·have cV:=vv hs;have iO:=dh cV;have tK:=xi x.set.name af (by unfold maxLen;omega) ql;rw[ED cV hv]at tK;refine gC ?_;refine aR (bC hx) rfl (gC ?_)
      with_reducible refine ao (vj x.set jd) ?_
      refine gC ?_;rw[hs];refine aP rfl (gC ?_)
      with_reducible refine ao (tK) ?_
      refine gC ?_;cases hu:Nm.under x.set.name af
      ·refine aN rfl (gC ?_);rw[aJ,gj,hu];simp
      ·have aV:gj af x=true:=by simp[gj,hs,hu]
       refine aP rfl (gC ?_);rcases alL k with cb|cb
       ·have dM:bS l k=none:=by simp[bS,cb]
        rw[dM]at aJ;dsimp only at aJ;rw[alr,aV,aja]at aJ;refine aN (by simp[cb]) (gC ?_);refine I.back (IH (k+1) ⟨by omega,aJ,fun q hq=>by rw[pQ]at hq;cases hq;exact hs⟩ oM) ?_;exact sZ
       ·obtain⟨q,hq,dM⟩:=tF cb hk.1;have Ey:=vv (hk.2.2 q dM);rw[dM]at aJ;dsimp only at aJ;rw[aV,aja]at aJ;have hc:=O' q.set.name q.set.type x.set.name x.set.type Ey cV;rw[zz]at hc;refine aP (by simp;omega) ?_;refine gC ?_;refine aR (nP hq cb oM) rfl (gC ?_)
        with_reducible refine ao (hc) ?_
        refine gC ?_;apply ah<;>intro h8
        ·have hb:jc q x=false:=by simp at h8;simp[jc];omega
         refine gC ?_;rw[aJ,hb,ald]
        ·have hb:jc q x=true:=by simp at h8;simp[jc];omega
         refine gC ?_;refine I.back (IH (k+1) ⟨by omega,by rw[aJ,hb,aja],fun q hq=>by rw[pQ]at hq;cases hq;exact hs⟩ oM) ?_;exact sZ
    ·have aA:l.length<=k:=zD h5
     refine gC ?_;rw[hk.2.1,aje aA];rfl
theorem Pe{l:List Signed}{q:bp}:l.any (cF q) = !(decide (aC l q<0)):=by
 unfold aC;cases h:l.findIdx? (cF q)with
 |none =>
  have h1:=alU.1 h;have:l.any (cF q)=false:=by
   rw[<- ak5,alN];rintro⟨x,hx,ha⟩;rw[h1 x hx]at ha;cases ha
  rw[this];rfl
 |some i =>
  obtain⟨hi,ha,-⟩:=alT.1 h;have:l.any (cF q)=true:=alN.2 ⟨_,List.getElem_mem hi,ha⟩;rw[this];simp
theorem X5(z:aK)(hl:z.J.length<=1000000)(hv:∀ s∈z.J,Nm.valid s.set.name=true)(hq:Nm.valid z.af=true)(hs:gm z.J):aq E 126 [z.enc] (· = .bool (tG z)):=by
 have f1:=Jc z ⟨z.af,4⟩ hl hv hq hs;have f2:=Jc z ⟨z.af,2⟩ hl hv hq hs;obtain⟨af,l⟩:=z;simp only at *;unfold tG;simp only[<- Pe];refine eP F126.h ?_;refine I.te ?_;refine I.run ag F126.h 2000 ?_;(conv=>whnf);refine aN dC (gC ?_);refine fI (.int .i64 4) dC rfl rfl (gC ?_)
 with_reducible refine ta (f1) ?_
 rintro r ⟨i,-,rfl,-⟩;refine gC ?_;cases h1:l.any (cF ⟨af,4⟩)
 ·refine aN rfl (gC ?_);rfl
 refine aP rfl (gC ?_);refine I.again ?_;refine I.run ag F126.h 2000 ?_;(conv=>whnf);refine aN dC (gC ?_);refine fI (.int .i64 2) dC rfl rfl (gC ?_)
 with_reducible refine ta (f2) ?_
 rintro r ⟨j,-,rfl,-⟩;refine gC ?_;cases h2:l.any (cF ⟨af,2⟩)
 ·refine aN rfl (gC ?_);rfl
 refine aP rfl (gC ?_);refine I.again ?_;refine I.run ag F126.h 2000 ?_;(conv=>whnf);refine aP dC (gC ?_);simp only[aja];refine I.lP l.length ([2,8]++rg 32 17) (fun k=>[(32,.d (.int .i64 k))]) (fun _=>[]) (fun k=>k<=l.length/\(l.take k).all (fun s=>xm s.set.type (s.set.name==af))=true) ⟨ai4 _,rfl⟩ ?_ ?_
 ·exact sZ
 ·intro k hk IH;refine zA ?_ ?_<;>intro h5
  ·have ai:k<l.length:=zD h5
   obtain⟨x,hx⟩:=aI ai;refine gC ?_;repeat' (first|with_reducible(first|refine aR (bC hx) rfl ?_|refine cC (OY _ _) ?_|refine cX ?_|apply ah<;>intro)|refine gE ?_|with_reducible rfl)
   all_goals first
    |(rw[dK hx (by simp_all)];done)
    |skip
   all_goals
    refine gC ?_;exact I.back (IH (k+1) ⟨by omega,ea hk.2 hx (by simp_all)⟩ oM) sZ
  ·have aA:l.length<=k:=zD h5
   refine gC ?_;rw[nb hk.2 aA]
def vz(af:Text)(l:List Signed):List (DV × DV):=l.foldl (fun es s=>if jT af s then b8 (.str s.set.name) (.bool true) es else es) []
theorem X6{af:Text}{l:List Signed}{k:Nat}{x:Signed}(h:l[k]?=some x):vz af (l.take (k+1))=if jT af x then b8 (.str x.set.name) (.bool true) (vz af (l.take k))else vz af (l.take k):=by
 rw[cj h,vz,alH];rfl
theorem EE(a b:Text):fy (.str a) (.str b)=(a==b):=rfl
def StrKeys(es:List (DV × DV)):Prop:=∀ p∈es,∃ s,p.1=DV.str s
theorem Pf{n:Text}{v:DV}:∀ {es:List (DV × DV)},StrKeys es->StrKeys (b8 (.str n) v es)
 |[],_,p,hp=>by simp[b8]at hp;subst hp;exact⟨_,rfl⟩
 |q::es,h,p,hp=>by
  unfold b8 at hp;split at hp
  ·rcases ai3.1 hp with rfl|hp
   ·exact⟨_,rfl⟩
   ·exact h p (aip _ hp)
  ·rcases ai3.1 hp with rfl|hp
   ·exact h _ (aio ..)
   ·exact Pf (fun r hr=>h r (aip _ hr)) p hp
theorem Pg{n m:Text}{v:DV}:∀ {es:List (DV × DV)},StrKeys es->findD (.str m) (b8 (.str n) v es)=if m==n then some v else findD (.str m) es
 |[],_=>by simp[b8,findD,EE]
 |q::es,h=>by
  obtain⟨s,hs⟩:=h q (aio ..);obtain⟨q1,q2⟩:=q;simp only at hs;subst hs;unfold b8;simp only[EE];by_cases e:n=s
  ·subst e;simp only[beq_self_eq_true,if_true,findD,EE];by_cases e2:m=n
   ·simp[e2]
   ·simp[e2]
  ·have ih:=Pg (n:=n) (m:=m) (v:=v) (es:=es) (fun r hr=>h r (aip _ hr));have e':(n==s)=false:=zD e
   simp only[e',ah0,if_false,findD,EE,ih];by_cases e2:m=s
   ·subst e2;have:(m==n)=false:=by simpa using fun h=>e h.symm
    simp[this]
   ·simp[e2]
theorem Je(af:Text)(l:List Signed):StrKeys (vz af l)/\∀ n,findD (.str n) (vz af l)=if (cm af l).contains n then some (.bool true)else none:=by
 have main:∀ (l:List Signed) (es:List (DV × DV)) (C:List Text),StrKeys es->(∀ n,findD (.str n) es=if C.contains n then some (.bool true)else none) ->
   StrKeys (l.foldl (fun es s=>if jT af s then b8 (.str s.set.name) (.bool true) es else es) es)/\∀ n,findD (.str n) (l.foldl (fun es s=>if jT af s then b8 (.str s.set.name) (.bool true) es else es) es)=if (C++cm af l).contains n then some (.bool true)else none:=by
  intro l
  induction l with
  |nil=>intro es C h1 h2;exact⟨h1,by simpa [cm]using h2⟩
  |cons s l ih =>
   intro es C h1 h2;cases hc:jT af s
   ·have e:cm af (s::l)=cm af l:=by simp[cm,hc]
    simp only[aiD,hc,ah0,if_false,e];exact ih es C h1 h2
   ·have e:cm af (s::l)=s.set.name::cm af l:=by simp[cm,hc]
    simp only[aiD,hc,if_true,e]
    have:=ih (b8 (.str s.set.name) (.bool true) es) (C++[s.set.name]) (Pf h1) (fun n=>by
     rw[Pg h1,h2 n];by_cases h:n=s.set.name
     ·simp[h]
     ·simp[h])
    simpa using this
 have:=main l [] [] (fun p hp=>by simp at hp) (fun n=>by simp[findD])
 simpa [vz]using this
def iQ(C:List Text)(cut n:Text):Text:=if (if cut != [] && !Nm.under n cut then[]else cut)==[]&&C.contains n then n else(if cut != [] && !Nm.under n cut then[]else cut)
def rW(C:List Text):Text->List Text->List Text
 |_,[]=>[]
 |cut,n::ns=>iQ C cut n::rW C (iQ C cut n) ns
theorem Ph(C:List Text):∀ (k:Text) (ns:List Text),(rW C k ns).length=ns.length
 |_,[]=>rfl
 |k,n::ns=>by simp[rW,Ph C _ ns]
def zB(z:aK):List Text:=rW (cm z.af z.J) [] (z.J.map (·.set.name))
theorem X7(z:aK):(zB z).length=z.J.length:=by simp[zB,Ph]
theorem B0{C:List Text}{cut n:Text}(hn:Nm.valid n=true)(hc:cut=[]\/Nm.valid cut=true):iQ C cut n=[]\/Nm.valid (iQ C cut n)=true:=by
 cases h:(cut != [] && !Nm.under n cut)
 ·simp only[iQ,h,ah0,if_false];split
  ·exact .inr hn
  ·exact hc
 ·simp only[iQ,h,if_true];split
  ·exact .inr hn
  ·exact .inl rfl
theorem X8(z:aK)(hl:z.J.length<=1000000)(hv:∀ s∈z.J,Nm.valid s.set.name=true):aq E 127 [z.enc] (· = BU z (zB z)):=by
 have jw:=X7 z;have I1:zB z=rW (cm z.af z.J) [] (z.J.map (·.set.name)):=rfl;generalize zB z=B at *;obtain⟨af,l⟩:=z;simp only at *;refine eP F127.h ?_;refine gC ?_;refine I.lP l.length ([5]++rg 18 22) (fun k=>[(18,.d (.int .i64 k)),(3,.map 2)]) (fun k=>[(2,.map (vz af (l.take k)))]) (fun k=>k<=l.length) (ai4 _) ?_ ?_
 ·(conv=>whnf);repeat (first|exact trivial|(refine And.intro (by first|with_reducible rfl|exact congrArg (DV.int .i64) oM|exact rfl|exact congrArg (DV.int .i64) (wrap64 oM oM)|exact congrArg (DV.int .i64) ((wrap64 oM oM).trans oM)) ?_;conv=>whnf))
 ·intro k hk IH;refine zA ?_ ?_<;>intro h5
  ·have ai:k<l.length:=zD h5
   obtain⟨x,hx⟩:=aI ai;have aJ:=X6 (af:=af) hx;have gv:=(Je af (l.take k)).1;refine gC ?_;repeat' (first|with_reducible(first|refine aR (bC hx) rfl ?_|refine cX ?_|apply ah<;>intro)|refine gE ?_|with_reducible rfl)
   all_goals first
    |(refine bj ⟨⟨_, rfl⟩, gv⟩ ?_
      have hc : jT af x=true := by simp_all[jT])
    |(have hc:jT af x=false:=by simp_all[jT])
   all_goals
    rw[hc]at aJ;refine gC ?_;refine I.back (IH (k+1) oM oM) ?_;refine sY ?_
    refine And.intro (by rw[aJ];simp) ?_;exact sZ
  ·have aA:l.length<=k:=zD h5
   rw[ajq aA];refine gC ?_;refine dU ?_;refine bj (by simp;omega) ?_;refine gD ?_;refine And.intro (by kernel_rfl) ?_;(conv=>whnf);(conv=>whnf);refine gC ?_;refine I.loop (κ:=Nat × Text) [7,8,9,10,11,12,51,52,53,54,55,56,57,58,59,60,61,62,63,64,65,66,67,68,69,70,71,72,73,74,75,76,77,78,79,80,81,82] (fun k=>[(51,.d (.int .i64 k.1)),(7,.d (.str k.2))]) (fun k=>[(3,.arr 0 (9,1) ((B.take k.1++ahC (l.length-k.1) []).map .str))]) (fun k=>k.1<=l.length/\B.drop k.1=rW (cm af l) k.2 ((l.drop k.1).map (·.set.name))/\(k.2=[]\/Nm.valid k.2=true)) (fun k=>l.length-k.1) (0,[]) ⟨ai4 _,zD I1,.inl rfl⟩ ?_ ?_
   ·refine sY ?_
    refine⟨by simp, ?_⟩;exact sZ
   ·rintro⟨i,cut⟩ hk IH;simp only at hk;refine zA ?_ ?_<;>intro h5
    ·have ai:i<l.length:=zD h5
     obtain⟨x,hx⟩:=aI ai;have cV:=hv x (aiQ hx);have iO:=dh cV;have I2:(l.drop i).map (·.set.name)=x.set.name::(l.drop (i+1)).map (·.set.name):=by
      have e1:l[i]=x:=by simpa [ai]using hx
      rw[ajf ai,e1];rfl
     obtain⟨-,xn,hcut⟩:=hk;rw[I2,rW]at xn;have gP:B[i]?=some (iQ (cm af l) cut x.set.name):=by
      have:=congrArg (fun l=>l[0]?) xn
      simpa using this
     have ku:B.drop (i+1)=rW (cm af l) (iQ (cm af l) cut x.set.name) ((l.drop (i+1)).map (·.set.name)):=by
      have:=congrArg List.tail xn
      simpa using this
     have qC:=(Je af l).2 x.set.name;have gv:=(Je af l).1;refine gC ?_;refine aR (bC hx) rfl (gC ?_);rcases EF:cut with _|⟨c0,agG⟩
     ·subst EF;refine aP sP (gC ?_);refine aN sP (gC ?_);refine qm (.bool false) (.bool false) (v := .bool ((cm af l).contains x.set.name)) (f:=(cm af l).contains x.set.name) ⟨_,rfl⟩ gv (fun w=>by kernel_rfl) (fun _ _ => .bool _) (by rw[qC];split<;>simp_all) (by rw[qC];split<;>simp_all) ?_;refine gC ?_;cases B1:(cm af l).contains x.set.name
      ·refine vF ?_;have hS:iQ (cm af l) ([]:Text) x.set.name=[]:=by simp[iQ];intro h;exact absurd h (zD B1)
       refine bj ⟨by omega,by simp;omega⟩ ?_;refine gC ?_;refine fI (.str []) oM (by simp only[ai0,ahy];rw[vu jw ai];rfl) rfl ?_;refine gC ?_;refine I.back (IH (i+1,[]) ⟨by simp only;omega,by rw[hS]at ku;exact ku,by have hq:=B0 (C:=cm af l) cV hcut;rw[hS]at hq;exact hq⟩ (by simp only;omega)) ?_;refine sY ?_
       refine And.intro (by rw[<- vt (e:=[]) (x:=[]) jw (by rw[hS]at gP;exact gP)];simp[alM]) ?_;exact sZ
      ·refine vT ?_;have hS:iQ (cm af l) ([]:Text) x.set.name=x.set.name:=by simp[iQ];intro h;exact absurd (zD B1) h
       refine bj ⟨by omega,by simp;omega⟩ ?_;refine gC ?_;refine fI (.str []) oM (by simp only[ai0,ahy];rw[vu jw ai];rfl) rfl ?_;refine gC ?_;refine I.back (IH (i+1,x.set.name) ⟨by simp only;omega,by rw[hS]at ku;exact ku,by have hq:=B0 (C:=cm af l) cV hcut;rw[hS]at hq;exact hq⟩ (by simp only;omega)) ?_;refine sY ?_
       refine And.intro (by rw[<- vt (e:=[]) (x:=x.set.name) jw (by rw[hS]at gP;exact gP)];simp[alM]) ?_;exact sZ
     ·have rf:Nm.valid cut=true:=by
       rcases hcut with h|h
       ·rw[EF]at h;cases h
       ·exact h
      have dR:=dh rf;have tK:=xi x.set.name cut (by unfold maxLen;omega) (by unfold maxLen;omega);rw[ED cV rf]at tK;rw[<- EF];have aL:cut≠[]:=by rw[EF];simp
      refine aN (zD aL) (gC ?_)
      with_reducible refine ao (tK) ?_
      refine gC ?_;cases hu:Nm.under x.set.name cut
      ·refine aN rfl (gC ?_);refine aN sP (gC ?_);refine qm (.bool false) (.bool false) (v := .bool ((cm af l).contains x.set.name)) (f:=(cm af l).contains x.set.name) ⟨_,rfl⟩ gv (fun w=>by kernel_rfl) (fun _ _ => .bool _) (by rw[qC];split<;>simp_all) (by rw[qC];split<;>simp_all) ?_;refine gC ?_;cases B1:(cm af l).contains x.set.name
       ·refine vF ?_;have hS:iQ (cm af l) cut x.set.name=[]:=by simp[iQ,hu,aL];intro h;exact absurd h (zD B1)
        refine bj ⟨by omega,by simp;omega⟩ ?_;refine gC ?_;refine fI (.str []) oM (by simp only[ai0,ahy];rw[vu jw ai];rfl) rfl ?_;refine gC ?_;refine I.back (IH (i+1,[]) ⟨by simp only;omega,by rw[hS]at ku;exact ku,by have hq:=B0 (C:=cm af l) cV hcut;rw[hS]at hq;exact hq⟩ (by simp only;omega)) ?_;refine sY ?_
        refine And.intro (by rw[<- vt (e:=[]) (x:=[]) jw (by rw[hS]at gP;exact gP)];simp[alM]) ?_;exact sZ
       ·refine vT ?_;have hS:iQ (cm af l) cut x.set.name=x.set.name:=by simp[iQ,hu,aL];intro h;exact absurd (zD B1) h
        refine bj ⟨by omega,by simp;omega⟩ ?_;refine gC ?_;refine fI (.str []) oM (by simp only[ai0,ahy];rw[vu jw ai];rfl) rfl ?_;refine gC ?_;refine I.back (IH (i+1,x.set.name) ⟨by simp only;omega,by rw[hS]at ku;exact ku,by have hq:=B0 (C:=cm af l) cV hcut;rw[hS]at hq;exact hq⟩ (by simp only;omega)) ?_;refine sY ?_
        refine And.intro (by rw[<- vt (e:=[]) (x:=x.set.name) jw (by rw[hS]at gP;exact gP)];simp[alM]) ?_;exact sZ
      ·have hS:iQ (cm af l) cut x.set.name=cut:=by simp[iQ,hu,aL]
       refine aP rfl (gC ?_);refine aP (zD aL) (gC ?_);refine vF ?_;refine bj ⟨by omega,by simp;omega⟩ ?_;refine gC ?_;refine fI (.str []) oM (by simp only[ai0,ahy];rw[vu jw ai];rfl) rfl ?_;refine gC ?_;refine I.back (IH (i+1,cut) ⟨by simp only;omega,by rw[hS]at ku;exact ku,by have hq:=B0 (C:=cm af l) cV hcut;rw[hS]at hq;exact hq⟩ (by simp only;omega)) ?_;refine sY ?_
       refine And.intro (by rw[<- vt (e:=[]) (x:=cut) jw (by rw[hS]at gP;exact gP)];simp[alM]) ?_;exact sZ
    ·have aA:l.length<=i:=zD h5
     refine gC ?_;simp only[show l.length-i=0 by omega,alR,aj0];rw[ajq oM]
theorem EG{a b c:Text}(h:bH a b<=0)(k:bH b c<=0):bH a c<=0:=by
 rcases alO h with h|h
 ·rcases alO k with k|k
  ·exact akI (BW h k)
  ·rw[<- rV k];exact akI h
 ·rw[rV h];exact k
theorem Pj(a:Text):Nm.under a a=true:=by simp[Nm.under]
def kv(l:List Text):Prop:=∀ (i j:Nat) (x y:Text),i<j->l[i]?=some x->l[j]?=some y->bH x y<=0
def vA(l:List Text):Prop:=∀ (i j:Nat) (x y:Text),i<j->l[i]?=some x->l[j]?=some y->Nm.under y x=false
theorem kv.snoc{l:List Text}{c:Text}(h:kv (l++[c])):kv l/\∀ x∈l,bH x c<=0:=by
 refine⟨fun i j x y eC hx hy=>h i j x y eC (by rw[ahT (aW hx)];exact hx) (by rw[ahT (aW hy)];exact hy),fun x hx=>?_⟩;obtain⟨i,hi⟩:=aiN hx;have:=aW hi;exact h i l.length x c this (by rw[ahT this];exact hi) sP
theorem xq{α:Type}{l:List α}{c x:α}{i:Nat}(h:(l++[c])[i]?=some x):l[i]?=some x\/(i=l.length/\x=c):=by
 rcases ahs i l.length with hi|hi
 ·rw[ahT hi]at h;exact .inl h
 ·rw[aiH hi]at h;have h0:i-l.length=0:=by
   have:=aW h;simp at this;omega
  rw[h0]at h;simp at h;exact .inr ⟨by omega,h.symm⟩
theorem Pk:∀ (C:List Text),kv C->kv (gg C)/\vA (gg C)/\(∀ c∈C,∃ d∈gg C,Nm.under c d=true):=by
 have main:∀ (n:Nat) (C:List Text),C.length=n->kv C->kv (gg C)/\vA (gg C)/\(∀ c∈C,∃ d∈gg C,Nm.under c d=true):=by
  intro n
  induction n with
  |zero =>
   intro C hn _;obtain rfl:C=[]:=List.eq_nil_of_length_eq_zero hn;exact⟨fun i j x y _ h=>by simp[gg]at h,fun i j x y _ h=>by simp[gg]at h,fun c h=>by simp at h⟩
  |succ n ih =>
   intro C hn hA;rcases alP C with rfl|⟨P,c,rfl⟩
   ·simp at hn
   rw[alQ]at *;obtain⟨X9,Jf⟩:=hA.snoc;obtain⟨i1,i2,i3⟩:=ih P (zD hn) X9;have e:gg (P++[c])=mu (gg P) c:=by rw[gg,alH];rfl
   have hle:∀ d∈gg P,bH d c<=0:=fun d hd=>Jf d (zr d hd);rw[e];generalize gg P=H at *;rcases alP H with rfl|⟨H0,d,rfl⟩
   ·have e2:mu [] c=[c]:=rfl;rw[e2];refine⟨fun i j x y eC hx hy=>?_,fun i j x y eC hx hy=>?_,fun x hx=>?_⟩
    ·have:=aW hy;simp at this;omega
    ·have:=aW hy;simp at this;omega
    ·rcases aif.1 hx with hx|hx
     ·obtain⟨d,hd,-⟩:=i3 x hx;simp at hd
     ·simp at hx;subst hx;exact⟨x,by simp,Pj x⟩
   ·rw[alQ]at *;have e2:mu (H0++[d]) c=if Nm.under c d then H0++[d]else H0++[d]++[c]:=by simp[mu]
    rw[e2];cases hu:Nm.under c d
    ·simp only[ah0,if_false];refine⟨fun i j x y eC hx hy=>?_,fun i j x y eC hx hy=>?_,fun x hx=>?_⟩
     ·rcases xq hy with ia|⟨rfl,rfl⟩
      ·rcases xq hx with hx|⟨rfl,rfl⟩
       ·exact i1 i j x y eC hx ia
       ·exact absurd (aW ia) oM
      ·rcases xq hx with hx|⟨h,-⟩
       ·exact hle x (aiQ hx)
       ·omega
     ·rcases xq hy with ia|⟨rfl,rfl⟩
      ·rcases xq hx with hx|⟨rfl,rfl⟩
       ·exact i2 i j x y eC hx ia
       ·exact absurd (aW ia) oM
      ·rcases xq hx with hx|⟨h,-⟩
       ·rcases xq hx with EB|⟨-,rfl⟩
        ·rw[<- ak5];intro X';have hd:(H0++[d])[H0.length]?=some d:=by simp
         have mO:=aW EB;have h1:=i1 i H0.length x d mO hx hd;have h2:=hle d sP;have h3:=zy h1 h2 X';rw[i2 i H0.length x d mO hx hd]at h3;cases h3
        ·exact hu
       ·omega
     ·rcases aif.1 hx with hx|hx
      ·obtain⟨q,hq,Ya⟩:=i3 x hx;exact⟨q,List.mem_append_left _ hq,Ya⟩
      ·simp at hx;subst hx;exact⟨x,by simp,Pj x⟩
    ·simp only[if_true];refine⟨i1,i2,fun x hx=>?_⟩;rcases aif.1 hx with hx|hx
     ·exact i3 x hx
     ·simp at hx;subst hx;exact⟨d,by simp,hu⟩
 exact fun C=>main C.length C rfl
def tL(H:List Text)(n r:Text):Prop:=(r∈H/\Nm.under n r=true)\/(r=[]/\∀ d∈H,Nm.under n d=false)
theorem Pl{H:List Text}(hA:kv H)(hP:vA H){n d e:Text}(hd:d∈H)(he:e∈H)(h1:Nm.under n d=true)(h2:Nm.under n e=true):d=e:=by
 obtain⟨i,hi⟩:=aiN hd;obtain⟨j,hj⟩:=aiN he;rcases ajV i j with h|h|h
 ·have:=zy (hA i j d e h hi hj) (BX h2) h1;rw[hP i j d e h hi hj]at this;cases this
 ·subst h;rw[hi]at hj;exact Option.some.inj hj
 ·have:=zy (hA j i e d h hj hi) (BX h1) h2;rw[hP j i e d h hj hi]at this;cases this
theorem tL.unique{H:List Text}(hA:kv H)(hP:vA H){n r s:Text}(h1:tL H n r)(h2:tL H n s):r=s:=by
 rcases h1 with⟨a1,a2⟩|⟨a1,a2⟩
 ·rcases h2 with⟨b1,b2⟩|⟨b1,b2⟩
  ·exact Pl hA hP a1 b1 a2 b2
  ·rw[b2 r a1]at a2;cases a2
 ·rcases h2 with⟨b1,b2⟩|⟨b1,b2⟩
  ·rw[a2 s b1]at b2;cases b2
  ·rw[a1,b1]
theorem Jg{α:Type}(p:α->Bool):∀ (l:List α),∀ x∈l.takeWhile p,p x=true
 |[],x,h=>by simp at h
 |a::l,x,h=>by
  rw[alW]at h;cases ha:p a
  ·rw[ha]at h;simp at h
  ·rw[ha]at h;rcases ai3.1 h with rfl|h
   ·exact ha
   ·exact Jg p l x h
theorem Pm{α:Type}(p:α->Bool):∀ (l:List α) (x:α),l[(l.takeWhile p).length]?=some x->p x=false
 |[],x,h=>by simp at h
 |a::l,x,h=>by
  rw[alW]at h;cases ha:p a
  ·rw[ha]at h;simp at h;rw[<- h];exact ha
  ·rw[ha]at h;exact Pm p l x (zD h)
theorem Pn{H:List Text}(hA:kv H)(hP:vA H){n:Text}{k:Nat}(hk:k<=H.length)(lQ:∀ m d,m<k->H[m]?=some d->bH d n<=0) :
  tL H n (nW H n (fM H n k))/\(∀ m d,m<fM H n k->H[m]?=some d->bH d n<=0):=by
 have rT:=Ew (n:=n) hk;have low:∀ m d,m<fM H n k->H[m]?=some d->bH d n<=0:=fun m d hm hd=>by
  rcases ahs m k with h|h
  ·exact lQ m d h hd
  ·unfold fM at hm;have h1:(H.drop k)[m-k]?=some d:=by rw[ai5,show k+(m-k)=m by omega];exact hd
   have h2:=alV (fun c=>decide (bH c n<=0)) (l:=H.drop k);have h3:((H.drop k).takeWhile fun c=>decide (bH c n<=0))[m-k]?=some d:=by
    obtain⟨r,hr⟩:=h2;rw[<- hr,ahT oM]at h1;exact h1
   simpa using Jg _ _ d (aiQ h3)
 have high:∀ m d,fM H n k<=m->H[m]?=some d->Nm.under n d=false:=fun m d hm hd=>by
  rw[<- ak5];intro hu;have h1:=BX hu;obtain⟨e,he⟩:=aI (l:=H) (k:=fM H n k) (by have:=aW hd;omega);have h2:bH e n<=0:=by
   rcases ahs (fM H n k) m with h|h
   ·exact EG (hA _ m e d h he hd) h1
   ·obtain rfl:m=fM H n k:=by omega
    rw[he]at hd;cases hd;exact h1
  have h3:(H.drop k)[((H.drop k).takeWhile fun c=>decide (bH c n<=0)).length]?=some e:=by
   rw[ai5];exact he
  have h6:=Pm _ _ e h3;simp at h6;omega
 refine⟨?_,low⟩;generalize fM H n k=j at *;unfold nW;by_cases hj:j=0
 ·rw[if_pos hj];refine .inr ⟨rfl,fun d hd=>?_⟩;obtain⟨m,hm⟩:=aiN hd;exact high m d oM hm
 ·rw[if_neg hj];obtain⟨c,hc⟩:=aI (l:=H) (k:=j-1) oM;rw[hc];dsimp only;cases hu:Nm.under n c
  ·simp only[ah0,if_false];refine .inr ⟨rfl,fun d hd=>?_⟩;obtain⟨m,hm⟩:=aiN hd;rcases ahs m j with h|h
   ·rcases ahs m (j-1)with h'|h'
    ·rw[<- ak5];intro Yb;have:=zy (hA m (j-1) d c h' hm hc) (low (j-1) c oM hc) Yb;rw[hP m (j-1) d c h' hm hc]at this;cases this
    ·obtain rfl:m=j-1:=by omega
     rw[hc]at hm;cases hm;exact hu
   ·exact high m d h hm
  ·simp only[if_true];exact .inl ⟨aiQ hc,hu⟩
theorem Yc{C H:List Text}(hA:kv H)(hP:vA H)(tM:∀ d∈H,d∈C)(zC:∀ c∈C,∃ d∈H,Nm.under c d=true)(aL:∀ c∈C,c≠[]){cut n:Text}{prev:Option Text}
  (hcut:match prev with|none=>cut=[]|some p=>tL H p cut) (EH:∀ d∈H,bH d n<0->∃ p,prev=some p/\bH d p<=0) (pJ:∀ p,prev=some p->bH p n<=0):tL H n (iQ C cut n):=by
 have key:∀ d∈H,Nm.under n d=true->d≠n->cut=d:=fun d hd hu tN=>by
  have h1:=BX hu;have h2:bH d n<0:=by
   rcases alO h1 with h|h
   ·exact h
   ·exact absurd (rV h) tN
  obtain⟨p,hp,jU⟩:=EH d hd h2;have h3:=zy jU (pJ p hp) hu;rw[hp]at hcut;exact hcut.unique hA hP (.inl ⟨hd,h3⟩)
 by_cases hc:cut≠[]/\Nm.under n cut=true
 ·have e:iQ C cut n=cut:=by simp[iQ,hc.1,hc.2]
  rw[e];refine .inl ⟨?_,hc.2⟩;cases prev with
  |none=>exact absurd hcut hc.1
  |some p =>
   rcases hcut with h|h
   ·exact h.1
   ·exact absurd h.1 hc.1
 ·have no:∀ d∈H,Nm.under n d=true->d=n:=fun d hd hu=>by
   apply Classical.byContradiction;intro tN;have:=key d hd hu tN;subst this;exact hc ⟨aL _ (tM _ hd),hu⟩
  have e0:(if cut != [] && !Nm.under n cut then[]else cut)=[]:=by
   by_cases h1:cut=[]
   ·simp[h1]
   ·have:Nm.under n cut=false:=by
     rw[<- ak5];exact fun h=>hc ⟨h1,h⟩
    simp[h1,this]
  have e:iQ C cut n=if C.contains n then n else[]:=by
   simp only[iQ,e0];cases C.contains n<;>rfl
  rw[e];cases dG:C.contains n
  ·refine .inr ⟨by simp,fun d hd=>?_⟩;rw[<- ak5];intro hu;have:=no d hd hu;subst this;have:C.contains d=true:=zD (tM d hd)
   rw[dG]at this;cases this
  ·simp only[if_true];have hn:n∈C:=zD dG
   obtain⟨d,hd,hu⟩:=zC n hn;have:=no d hd hu;subst this;exact .inl ⟨hd,hu⟩
theorem Po{C H:List Text}(hA:kv H)(hP:vA H)(tM:∀ d∈H,d∈C)(zC:∀ c∈C,∃ d∈H,Nm.under c d=true)(aL:∀ c∈C,c≠[]) :
  ∀ (rest done:List Text) (cut:Text) (k:Nat),kv (done++rest)->(∀ c∈C,c∈done++rest)->k<=H.length->(match done.getLast? with|none=>cut=[]|some p=>tL H p cut)->(∀ m d,m<k->H[m]?=some d->∃ p,done.getLast?=some p/\bH d p<=0)->rW C cut rest=oV H k rest
 |[],_,_,_,_,_,_,_,_=>rfl
 |n::rest,done,cut,k,tO,aM,hk,hcut,lQ=>by
  have pJ:∀ p,done.getLast?=some p->bH p n<=0:=fun p hp=>by
   have hl:0<done.length:=by cases done with|nil=>simp at hp|cons=>simp
   rw[alm]at hp;exact tO (done.length-1) done.length p n oM (by rw[ahT oM];exact hp) sP
  have EH:∀ d∈H,bH d n<0->∃ p,done.getLast?=some p/\bH d p<=0:=fun d hd tN=>by
   have:=aM d (tM d hd);obtain⟨i,hi⟩:=aiN this;have sN:(done++n::rest)[done.length]?=some n:=by simp
   have ai:i<done.length:=by
    rcases ajV i done.length with h|h|h
    ·exact h
    ·subst h;rw[sN]at hi;cases hi;rw[qH]at tN;omega
    ·have h1:=tO done.length i n d h sN hi;have h2:=BV d n;omega
   rw[ahT ai]at hi;obtain⟨p,hp⟩:=aI (l:=done) (k:=done.length-1) oM;refine⟨p,by rw[alm];exact hp,?_⟩;rcases ahs i (done.length-1)with h|h
   ·exact tO i (done.length-1) d p h (by rw[ahT ai];exact hi) (by rw[ahT oM];exact hp)
   ·obtain rfl:i=done.length-1:=by omega
    rw[hp]at hi;cases hi;rw[qH];omega
  have f1:=Yc hA hP tM zC aL hcut EH pJ
  obtain⟨f2,f3⟩:=Pn hA hP (n:=n) hk (fun m d hm hd=>by
   obtain⟨p,hp,jU⟩:=lQ m d hm hd
   exact EG jU (pJ p hp))
  have e:=f1.unique hA hP f2;simp only[rW,oV,e]
  congr 1
  have ih:=Po hA hP tM zC aL rest (done++[n]) (nW H n (fM H n k)) (fM H n k) (zD tO) (zD aM) (Ew hk) (zD f2) (fun m d hm hd=>⟨n,by simp,f3 m d hm hd⟩);exact ih
theorem Yd{a b c:Signed}(h:jc a b=true)(k:jc b c=true):jc a c=true:=by
 simp only[jc,decide_eq_true_eq]at *;rw[<- zz]at *;exact Ja h k
theorem Pp{ok:Signed->Bool}:∀ {l:List Signed} {p:Option Signed},chain ok jc p l=true->gm l/\∀ q,p=some q->∀ x∈l,jc q x=true
 |[],p,_=>⟨fun i j x y _ h=>by simp at h,fun q _ x hx=>by simp at hx⟩
 |s::l,p,h=>by
  simp only[chain,ai2]at h;obtain⟨i1,i2⟩:=Pp h.2;refine⟨fun i j x y eC hx hy=>?_,fun q hq x hx=>?_⟩
  ·cases j with
   |zero=>omega
   |succ j =>
    rw[ajO]at hy;cases i with
    |zero =>
     simp at hx;subst hx
     simpa [jc]using i2 _ rfl y (aiQ hy)
    |succ i =>
     rw[ajO]at hx;exact i1 i j x y oM hx hy
  ·subst hq;rcases ai3.1 hx with rfl|hx
   ·exact h.1.2
   ·exact Yd h.1.2 (i2 _ rfl x hx)
theorem Jh{a b:dw}(h:pO a b<0):bH a.name b.name<=0:=by
 unfold pO at h;split at h
 ·omega
 ·rename_i e;simp at e;omega
theorem EI{l:List Signed}(h:gm l):kv (l.map (·.set.name)):=fun i j x y eC hx hy=>by
 rw[ahy]at hx hy;obtain⟨a,ha,rfl⟩:=ahF.1 hx;obtain⟨b,hb,rfl⟩:=ahF.1 hy;exact Jh (h i j a b eC ha hb)
theorem Pq{l:List Text}:kv l↔l.Pairwise (fun x y=>bH x y<=0):=by
 rw[List.pairwise_iff_getElem];constructor
 ·exact fun h i j hi hj eC=>h i j _ _ eC (by simp[hi]) (by simp[hj])
 ·intro h i j x y eC hx hy;obtain⟨hi,rfl⟩:=akz.1 hx;obtain⟨hj,rfl⟩:=akz.1 hy;exact h i j hi hj eC
theorem Pr{af:Text}{l:List Signed}(h:kv (l.map (·.set.name))):kv (cm af l) :=
 Pq.2 ((Pq.1 h).sublist (List.Sublist.map _ List.filter_sublist))
theorem Ye{z:aK}(hs:gm z.J)(aL:∀ s∈z.J,s.set.name≠[]):zB z=kr z:=by
 have hA:=Pr (af:=z.af) (EI hs);obtain⟨h1,h2,h3⟩:=Pk _ hA;refine Po h1 h2 zr h3 (fun c hc=>?_) (z.J.map (·.set.name)) [] [] 0 (zD (EI hs)) (fun c hc=>?_) (ai4 _) rfl (fun m d hm=>by omega)
 ·obtain⟨s,h,rfl,-⟩:=qF hc;exact aL s h
 ·obtain⟨s,h,rfl,-⟩:=qF hc
  simpa using⟨s,h,rfl⟩
def pS(q:Signed)(t:Option Signed):Bool:=match t with|none=>true|some t => !(t.set.name==q.set.name&&t.set.type != 8)
theorem Yf{p:Text}{s:Signed}{t:Option Signed}:vy (some p) s t=((s.set.type != 3||p != s.set.name)&&(if s.set.type==3 then pS s t else true)):=by
 unfold vy pS;by_cases h:s.set.type=3
 ·simp[h]<;>rfl
 ·have hb:(s.set.type != 3)=true:=zD h
  have hc:(s.set.type==3)=false:=zD h
  simp[hb,hc]
theorem Ps:∀ (l:List Signed) (q:Signed) (al:Text),gm (q::l)->(∀ s∈q::l,s.set.name≠[]/\s.set.type<=8) ->
  ((q.set.type≠3/\(al=[]\/bH al q.set.name<0))\/(al=q.set.name/\q.set.type=3)\/(al=q.set.name/\q.set.type=8)) ->
  ((if q.set.type==3 then pS q l.head? else true)&&lO (some q.set.name) l)=nU al (some q.set.name) l
 |[],q,al,_,_,_=>by simp[pS,lO,nU]
 |s::l,q,al,hs,hn,bc=>by
  have ai:pO q.set s.set<0:=hs 0 1 q s oM rfl rfl;have iC:gm (s::l):=fun i j x y eC hx hy=>hs (i+1) (j+1) x y oM hx hy;have kY:∀ t∈s::l,t.set.name≠[]/\t.set.type<=8:=fun t ht=>hn t (aip _ ht);have hs8:=(kY s (aio ..)).2;have xr:=(kY s (aio ..)).1;have ih:=Ps l s (if s.set.type==3 then s.set.name else al) iC kY;have e1:lO (some q.set.name) (s::l)=((s.set.type != 3||q.set.name != s.set.name)&&((if s.set.type==3 then pS s l.head? else true)&&lO (some s.set.name) l)):=by
   rw[lO,Yf,alX]
  rw[e1,List.head?_cons,nU];generalize nU (if (s.set.type==3)=true then s.set.name else al) (some s.set.name) l=T at *;generalize ((if s.set.type==3 then pS s l.head? else true)&&lO (some s.set.name) l)=A at *;by_cases qI:q.set.name=s.set.name
  ·have OD:q.set.type<s.set.type:=by
    have:pO q.set s.set=kV q.set.type s.set.type:=by simp[pO,qI,qH]
    rw[this]at ai;unfold kV at ai;split at ai
    ·assumption
    ·split at ai<;>omega
   by_cases h3:s.set.type=3
   ·simp[h3,qI,xr]
   ·have hb:(s.set.type != 3)=true:=zD h3
    have hc:(s.set.type==3)=false:=zD h3
    have hd:(s.set.name != [])=true:=zD xr
    rcases bc with⟨a1,a2⟩|⟨a1,a2⟩|⟨a1,a2⟩
    ·have rT:al≠s.set.name:=by
      rcases a2 with rfl|a2
      ·exact fun h=>xr h.symm
      ·rintro rfl;rw[qI,qH]at a2;omega
     have:=ih (.inl ⟨h3,by simpa [h3,<- qI]using a2⟩);rw[this];have Yg:(s.set.name==al)=false:=by simpa using fun h=>rT h.symm
     have Pt:(q.set.type==3)=false:=zD a1
     simp[hb,hc,hd,Pt,qI,Yg]
    ·by_cases h8:s.set.type=8
     ·have:=ih (.inr (.inr ⟨by simp[h3,a1,qI],h8⟩));rw[this];simp[h8,pS]
     ·have Yh:(s.set.type != 8)=true:=zD h8
      simp[hb,hc,hd,Yh,pS,a1,a2,qI]
    ·omega
  ·have bI:bH q.set.name s.set.name<0:=by
    have:=Jh ai;rcases alO this with h|h
    ·exact h
    ·exact absurd (rV h) qI
   have:=ih (by
    by_cases h3:s.set.type=3
    ·exact .inr (.inl ⟨by simp[h3],h3⟩)
    ·refine .inl ⟨h3,?_⟩;have e:(if (s.set.type==3)=true then s.set.name else al)=al:=by simp[h3]
     rw[e];rcases bc with⟨-,a|a⟩|⟨a,-⟩|⟨a,-⟩
     ·exact .inl a
     ·exact .inr (BW a bI)
     ·rw[a];exact .inr bI
     ·rw[a];exact .inr bI)
   rw[this];have e2:pS q (some s)=true:=by
    have:(s.set.name==q.set.name)=false:=by simpa using fun h=>qI h.symm
    simp[pS,this]
   have e3:(q.set.name==s.set.name)=false:=zD qI
   have e4:(q.set.name != s.set.name)=true:=zD qI
   rw[e2,e3,e4];simp
theorem Yi{l:List Signed}(hs:gm l)(hn:∀ s∈l,s.set.name≠[]/\s.set.type<=8):lO none l=nU [] none l:=by
 cases l with
 |nil=>rfl
 |cons s l =>
  have:=Ps l s (if s.set.type==3 then s.set.name else[]) hs hn (by
   by_cases h3:s.set.type=3
   ·exact .inr (.inl ⟨by simp[h3],h3⟩)
   ·exact .inl ⟨h3,.inl (by simp[h3])⟩)
  have e1:lO none (s::l)=((if s.set.type==3 then pS s l.head? else true)&&lO (some s.set.name) l):=by
   rw[lO]
   congr 1
   unfold vy pS;by_cases h3:s.set.type=3
   ·simp[h3]<;>rfl
   ·simp[h3]
  rw[e1,this,nU];simp
theorem Pu{af:Text}:∀ (l:List Signed) (B:List Text),l.length=B.length->((l.zip ((l.zip B).map fun p=>tH p.1 p.2)).all fun p=>xo af p.1 p.2)=(((l.zip B).all fun p=>vx p.1 p.2)&&l.all fun s=>kX s.sigs af)
 |[],B,_=>by simp
 |s::l,[],h=>by simp at h
 |s::l,b::B,h=>by
  have ih:=Pu (af:=af) l B (zD h);simp only[List.zip_cons_cons,List.map_cons,List.all_cons];rw[ih];unfold xo vx;cases kX s.sigs af<;>cases tH s b<;>simp[alX,Bool.and_left_comm]
theorem Yj{s:dw}(h:eX s=true):s.type<=8:=by
 simp only[eX,ai2,decide_eq_true_eq]at h;exact h.1.1.1.1.1.2.2
theorem Yk{t:Text}(h:Nm.valid t=true):t≠[]:=by
 rintro rfl
 revert h
 decide
theorem Pv{z:aK}(h:oW z=true):gm z.J/\(∀ s∈z.J,Nm.valid s.set.name=true)/\(∀ s∈z.J,s.set.name≠[]/\s.set.type<=8):=by
 obtain⟨-,g2,-⟩:=zx h;simp only[oW,ai2]at h;have g3:∀ s∈z.J,eX s.set=true:=fun s hs=>by
  have:=g2 s hs;simp only[gj,ai2]at this;exact this.1
 exact⟨(Pp h.2).1,fun s hs=>vv (g3 s hs),fun s hs=>⟨Yk (vv (g3 s hs)),Yj (g3 s hs)⟩⟩
theorem xt(z:aK)(hf:z.Fits):aq E 64 [z.enc] (· = .bool (dN z)):=by
 unfold dN;cases h1:oW z
 ·have bW:=Pd z hf;rw[h1]at bW;refine eP F64.h ?_;repeat' (first|with_reducible(first|refine cC bW ?_|refine cX ?_|apply ah<;>intro)|refine gE ?_|with_reducible rfl)
  all_goals simp_all
 ·obtain⟨g1,g2,g3⟩:=zx h1;obtain⟨f1,f2,f3⟩:=Pv h1;have gl:z.J.length<=1000000:=by omega
  have bW:=Pd z hf;rw[h1]at bW;have Ji:=X8 z gl f2;rw[Ye f1 (fun s hs=>(f3 s hs).1)]at Ji;have rT:=XT z (kr z) gl;rw[Yi f1 f3]at rT;have Pw:Ez z=(((z.J.zip (kr z)).all fun p=>vx p.1 p.2)&&z.J.all fun s=>kX s.sigs z.af):=Pu _ _ (vq z).symm;rw[Pw];have Jj:=XP z (kr z) (vq z) gl;have Px:=XQ z (kr z) (vq z) gl;have Py:=XR z (kr z) gl;change aq E _ _ (· = .bool (BT z))at Jj;generalize ((z.J.zip (kr z)).all fun p=>vx p.1 p.2)=S at *;generalize (z.J.all fun s=>kX s.sigs z.af)=F at *;have PA:=X5 z gl f2 g3 f1;clear Pw h1 g1 g2 g3 f1 f2 f3;generalize nU [] none z.J=T at *;generalize BT z=Fo at *;generalize tG z=Tw at *;generalize kr z=B at *;refine eP F64.h ?_;repeat' (first|with_reducible(first|refine cC bW ?_|refine cC PA ?_|refine cC Ji ?_|refine cC rT ?_|refine cC Jj ?_|refine cC Px ?_|refine cC Py ?_|refine cX ?_|apply ah<;>intro)|refine gE ?_|with_reducible rfl)
  all_goals simp_all
end Go.Proofs.YtlhehdgciafakaaGreatDoor.P
end
