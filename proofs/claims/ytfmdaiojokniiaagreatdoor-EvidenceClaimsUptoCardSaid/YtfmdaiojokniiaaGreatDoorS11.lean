/- Lemmas of mine. Conditions: as stated. -/
import Derived.Test.YtfmdaiojokniiaaGreatDoorS8
import Derived.Lib.Bytealg
set_option linter.unusedVariables false
set_option linter.unusedSimpArgs false
open Bool renaming true_and->afC,false_and->ahH,and_eq_true->aft,not_eq_true->ahx,false_eq_true->aet,and_true->ahT,not_false->ahL,or_eq_true->agp,and_assoc->aiK
open Int renaming toNat_natCast->afr,lt_or_eq_of_le->aiB,toNat->ahu,le_of_lt->aha
open List renaming mem_of_getElem?->afh,length_map->aff,drop_of_length_le->afG,getElem?_map->ad1,take_of_length_le->afS,getElem?_of_mem->afe,getElem?_append_left->ael,drop_eq_getElem_cons->afH,replicate->ad6,map_set->aiz,mem_cons_of_mem->aeR,mem_cons->afu,any_eq_true->aiA,length_take->aeu,mem_cons_self->aeQ,foldl_append->ah8,eq_nil_or_concat->aiC,concat_eq_append->aiD,replicate_zero->aiE,append_nil->ags,cons_prefix_cons->aiF,mem_append->aeI,findIdx?_eq_some_iff_getElem->aiG,findIdx?_eq_none_iff->aiH,takeWhile_prefix->aiI,append_assoc->afb,replicate_succ->afc,getElem?_append_right->ae9,getElem?_eq_none->adW,take_length->ahj,foldl_cons->ae5,takeWhile_cons->aiJ,getElem?_drop->afw,getLast?_eq_getElem?->ahO,getElem?_cons_succ->agf,getElem?_eq_some_iff->ag2
open Nat renaming zero_le->afv,lt_or_ge->adV,eq_zero_or_pos->aiy,lt_trichotomy->agn
open Option renaming getD_none->afq,getD_some->aeB,map_eq_some_iff->ad8
section
namespace Go.Proofs.YtfmdaiojokniiaaGreatDoor.P
open Go Go.aA
set_option maxRecDepth 100000
set_option maxHeartbeats 4000000
def l5(t:Text):Bool:=match Nm.labels t with
 |[]=>false
 |x::_=>x==[42]
theorem C1(t:Text)(ht:t.length<=1000):ar E 139 [.str t] (· = .bool (l5 t)):=by
 unfold l5;refine eP Tryz.func139 ?_
 with_reducible refine aq (z8 _ ht) ?_
 refine gO Tryz.func139 ?_;cases hl:Nm.labels t with
 |nil =>
  refine aU (by simp) ?_;refine gO Tryz.func139 ?_
  with_reducible rfl
 |cons x l =>
  refine aY (by simp) ?_;refine gO Tryz.func139 ?_;refine eW (.str x) (by decide) rfl rfl ?_;refine gO Tryz.func139 ?_
  with_reducible rfl
def cmpL:List Text->List Text->Int
 |[],[]=>0
 |[],_::_ => -1
 |_::_,[]=>1
 |x::l,y::m=>if Op.bytesLess x y then -1 else if x==y then cmpL l m else 1
def bD(a b:Text):Int:=cmpL (Nm.labels a).reverse (Nm.labels b).reverse
theorem rev_at{α:Type}{l:List α}{k:Nat}(hk:k<l.length):∃ x,l[l.length-(k+1)]?=some x/\l.reverse.drop k=x::l.reverse.drop (k+1):=by
 have h1:l.length-(k+1)<l.length:=by omega
 refine⟨l[l.length-(k+1)],by simp[h1],?_⟩;rw[afH (by simpa using hk)]
 congr 1
 simp only[List.getElem_reverse]
 congr 1
 omega
theorem G6(a b:Text)(ha:a.length<=1000)(hb:b.length<=1000):ar E 146 [.str a,.str b] (· = .int .i64 (bD a b)):=by
 have th:=CF a;have tn:=CF b;unfold bD;refine eP F146 ?_
 with_reducible refine aq (z8 _ ha) ?_
 refine gO F146 ?_
 with_reducible refine aq (z8 _ hb) ?_
 refine gO F146 ?_;generalize Nm.labels a=l at *;generalize Nm.labels b=m at *;refine J.loop (κ:=Nat) ([4,7,8,9]++rg 14 32) (fun k=>[(7,.d (.int .i64 (k+1)))]) (fun _=>[]) (fun k=>k<=l.length/\k<=m.length/\cmpL l.reverse m.reverse=cmpL (l.reverse.drop k) (m.reverse.drop k)) (fun k=>l.length-k) 0 ⟨afv _,afv _,rfl⟩ ?_ ?_
 ·exact sZ
 ·intro k hk IH;refine J.head ag F146 2000 ?_;(conv=>whnf);refine ai (fun h1=>?_) (fun h1=>?_)
  ·refine gO F146 ?_;refine ai (fun h2=>?_) (fun h2=>?_)
   ·have qM:k<l.length:=by simp at h1;omega
    have vx:k<m.length:=by simp at h2;omega
    obtain⟨x,hx,G7⟩:=rev_at qM;obtain⟨y,hy,G8⟩:=rev_at vx;have xI:IntKind.i64.wrap ((l.length:Int)-(k+1))=((l.length-(k+1):Nat):Int):=by rw[wrap64 (by omega) (by omega)];omega
    have fN:IntKind.i64.wrap ((m.length:Int)-(k+1))=((m.length-(k+1):Nat):Int):=by rw[wrap64 (by omega) (by omega)];omega
    have hc:=hk.2.2;rw[G7,G8]at hc;refine gO F146 ?_;simp only[aff];rw[xI];refine eW (.str x) (by omega) (lk hx) rfl ?_;refine gO F146 ?_;simp only[aff];rw[fN];refine eW (.str y) (by omega) (lk hy) rfl ?_;refine gO F146 ?_;refine ai (fun h3=>?_) (fun h3=>?_)
    ·refine gO F146 ?_;rw[hc,cmpL,if_pos h3]
    ·refine gO F146 ?_;refine ai (fun h4=>?_) (fun h4=>?_)
     ·refine gO F146 ?_;rw[hc,cmpL,if_neg (by rw[h3];decide),if_neg (by simp[h3]at h4;simpa using h4)]
     ·refine gO F146 ?_;refine J.back (IH (k+1) ⟨by omega,by omega,by rw[hc,cmpL,if_neg (by rw[h3];decide),if_pos (by simpa [h3]using h4)]⟩ (by omega)) ?_;exact sZ
   ·have qM:k<l.length:=by simp at h1;omega
    have vx:k=m.length:=by simp at h2;omega
    obtain⟨x,hx,G7⟩:=rev_at qM;have hc:=hk.2.2;rw[G7,afG (l:=m.reverse) (by simp;omega),cmpL]at hc;refine gO F146 ?_;refine aU (by simp;omega) ?_;refine gO F146 ?_;refine aY (by simp;omega) ?_;refine gO F146 ?_;rw[hc]
  ·have qM:k=l.length:=by simp at h1;omega
   have hc:=hk.2.2;rw[afG (l:=l.reverse) (by simp;omega)]at hc;refine gO F146 ?_;refine aR ?_;refine gO F146 ?_;refine ai (fun h2=>?_) (fun h2=>?_)
   ·have vx:k<m.length:=by simp at h2;omega
    obtain⟨y,hy,G8⟩:=rev_at vx;rw[G8,cmpL]at hc;refine gO F146 ?_;rw[hc]
   ·have vx:k=m.length:=by simp at h2;omega
    rw[afG (l:=m.reverse) (by simp;omega),cmpL]at hc;refine gO F146 ?_;refine aU (by simp;omega) ?_;refine gO F146 ?_;rw[hc]
theorem MD(a b:Text)(ha:Nm.valid a=true)(hb:Nm.valid b=true):ar E 275 [.str a,.str b] (· = .aF [.int .i64 (bD a b),.int .i64 0]):=by
 have h1:=dV ha;have h2:=dV hb;refine eP Tryz.func275 ?_
 with_reducible refine aq (eO _ (by unfold maxLen;omega)) ?_
 refine gO Tryz.func275 ?_
 with_reducible refine aq (eO _ (by unfold maxLen;omega)) ?_
 refine gO Tryz.func275 ?_;rw[ha,hb];refine aU (by decide) ?_;refine gO Tryz.func275 ?_;refine aU (by decide) ?_;refine gO Tryz.func275 ?_
 with_reducible refine aq (G6 _ _ (by omega) (by omega)) ?_
 refine gO Tryz.func275 ?_
 with_reducible rfl
def oB(a b:cM):Int:=if bD a.name b.name≠0 then bD a.name b.name else jP a.type b.type
theorem ME(a b:cM)(ha:Nm.valid a.name=true)(hb:Nm.valid b.name=true):ar E 212 [a.enc,b.enc] (· = .int .i64 (oB a b)):=by
 refine eP Tryz.func212 ?_;repeat' (first|with_reducible(first|refine aq (MD _ _ ha hb) ?_|refine ax (MD _ _ ha hb) ?_|refine cY ?_|refine cN ?_|refine ai (fun _=>?_) (fun _=>?_))|refine gA Tryz.func212 ?_|refine gB ?_|with_reducible rfl)
 all_goals simp_all[oB,jP]
 all_goals omega
theorem pg{α:Type}{a b:List α}{k:Nat}{x y:α}(h:a.take k=b.take k)(ha:a[k]?=some x)(hb:b[k]?=some y)(e:x=y):a.take (k+1)=b.take (k+1):=by
 subst e;rw[cG ha,cG hb,h]
theorem pj{α:Type}{a b:List α}{k:Nat}(h:a.take k=b.take k)(ha:a.length<=k)(hb:b.length<=k):a=b:=by
 rwa [afS ha,afS hb]at h
theorem mL{α:Type}{a b:List α}{k:Nat}{x y:α}(ha:a[k]?=some x)(hb:b[k]?=some y)(e:x≠y):a≠b:=by
 rintro rfl;rw[ha]at hb;cases hb;exact e rfl
def C2(a b:Datum):Bool:=(a.text==b.text&&(a.n==b.n&&(a.m==b.m&&true)))
theorem MF{a b:Datum}:C2 a b=true↔a=b:=by
 obtain⟨a1,a2,a3⟩:=a;obtain⟨b1,b2,b3⟩:=b;simp[C2]
theorem G9(a b:cM)(ha:a.data.length<=2147483648):ar E 116 [a.enc,b.enc] (· = .bool (decide (a=b))):=by
 obtain⟨an,at',al,ad⟩:=a;obtain⟨bn,bt,bl,bd⟩:=b;simp only at ha;refine eP F116 ?_;repeat' (first|with_reducible(first|refine cY ?_|refine cN ?_|refine ai (fun _=>?_) (fun _=>?_))|refine gA F116 ?_|refine gB ?_|with_reducible rfl)
 all_goals try (simp_all;done)
 case' refine_2.refine_2.refine_2.refine_1 =>
  rename_i h4;rw[decide_eq_false];intro h;have:=congrArg (fun s:cM=>s.data.length) h;simp only at this;simp[this]at h4
 all_goals
  rename_i h1 h2 h3 h4;simp only[bne_eq_false_iff_eq,Bool.not_eq_false',beq_iff_eq,aff]at h1 h2 h3 h4;subst h1;subst h2;subst h3;have hl:ad.length=bd.length:=by omega
  rw[show decide (cM.mk an at' al ad=cM.mk an at' al bd)=decide (ad=bd) by simp];refine gO F116 ?_;refine J.loop (κ:=Nat) ([4,5]++rg 34 18) (fun k=>[(5,.d (.int .i64 k))]) (fun _=>[]) (fun k=>k<=ad.length/\ad.take k=bd.take k) (fun k=>ad.length-k) 0 ⟨afv _,rfl⟩ ?_ ?_
  ·exact sZ
  ·intro k hk IH;refine J.head ag F116 2000 ?_;(conv=>whnf);refine ai (fun h5=>?_) (fun h5=>?_)
   ·have ah:k<ad.length:=by simpa using h5
    obtain⟨x,hx⟩:=aH ah;obtain⟨y,hy⟩:=aH (l:=bd) (k:=k) (by omega);refine gO F116 ?_;refine dU ?_;refine eW x.enc (by omega) (lk hx) rfl ?_;refine gD ?_;refine eW y.enc (by omega) (lk hy) rfl ?_;refine gD ?_;refine gO F116 ?_;refine ai (fun h6=>?_) (fun h6=>?_)
    ·have aJ:x≠y:=fun e=>by
      have:=MF.2 e;simp[C2]at this;simp[this]at h6
     refine gO F116 ?_;rw[decide_eq_false (mL hx hy aJ)]
    ·have he:x=y:=MF.1 (by simpa [C2]using h6);refine gO F116 ?_;refine J.back (IH (k+1) ⟨by omega,pg hk.2 hx hy he⟩ (by omega)) ?_;exact sZ
   ·have aC:k=ad.length:=by simp at h5;omega
    refine gO F116 ?_;rw[decide_eq_true (pj hk.2 (by omega) (by omega))]
theorem Vz(a b:Signed)(ha:a.set.data.length<=2147483648)(hs:a.sigs.length<=2147483648):ar E 138 [a.enc,b.enc] (· = .bool (decide (a=b))):=by
 obtain⟨C3,ad⟩:=a;obtain⟨C4,bd⟩:=b;simp only at ha hs;rw[show decide (Signed.mk C3 ad=Signed.mk C4 bd)=(decide (C3=C4)&&decide (ad=bd)) by simp];have MG:=G9 C3 C4 ha;generalize decide (C3=C4)=q at MG ⊢;refine eP F138 ?_
 with_reducible refine aq (MG) ?_
 refine gO F138 ?_;cases q
 ·refine aY rfl ?_;refine gO F138 ?_;refine a8 ?_;refine gO F138 ?_;rfl
 ·refine aU rfl ?_;refine gO F138 ?_;refine ai (fun h4=>?_) (fun h4=>?_)
  ·refine gO F138 ?_;rw[decide_eq_false]
   ·rfl
   ·rintro rfl;simp at h4
  ·simp only[bne_eq_false_iff_eq,aff]at h4;have hl:ad.length=bd.length:=by omega
   rw[afC];refine gO F138 ?_;refine J.loop (κ:=Nat) ([4,5]++rg 21 18) (fun k=>[(5,.d (.int .i64 k))]) (fun _=>[]) (fun k=>k<=ad.length/\ad.take k=bd.take k) (fun k=>ad.length-k) 0 ⟨afv _,rfl⟩ ?_ ?_
   ·exact sZ
   ·intro k hk IH;refine J.head ag F138 2000 ?_;(conv=>whnf);refine ai (fun h5=>?_) (fun h5=>?_)
    ·have ah:k<ad.length:=by simpa using h5
     obtain⟨x,hx⟩:=aH ah;obtain⟨y,hy⟩:=aH (l:=bd) (k:=k) (by omega);refine gO F138 ?_;refine dU ?_;refine eW x.enc (by omega) (lk hx) rfl ?_;refine gD ?_;refine eW y.enc (by omega) (lk hy) rfl ?_;refine gD ?_;refine gO F138 ?_;refine ai (fun h6=>?_) (fun h6=>?_)
     ·have aJ:x≠y:=fun e=>by
       have:=Mh.2 e;simp[CS]at this;simp[this]at h6
      refine gO F138 ?_;rw[decide_eq_false (mL hx hy aJ)]
     ·have he:x=y:=Mh.1 (by simpa [CS]using h6);refine gO F138 ?_;refine J.back (IH (k+1) ⟨by omega,pg hk.2 hx hy he⟩ (by omega)) ?_;exact sZ
    ·have aC:k=ad.length:=by simp at h5;omega
     refine gO F138 ?_;rw[decide_eq_true (pj hk.2 (by omega) (by omega))]
structure Signed.fO(s:Signed):Prop where
 data:s.set.data.length<=2147483648
 sigs:s.sigs.length<=2147483648
theorem VA(a b:List Signed)(hl:a.length<=2147483648)(ha:∀ s∈a,s.fO):ar E 72 [zZ a,zZ b] (· = .bool (decide (a=b))):=by
 refine eP F72 ?_;refine ai (fun h4=>?_) (fun h4=>?_)
 ·refine gO F72 ?_;rw[decide_eq_false];rintro rfl;simp at h4
 ·simp only[bne_eq_false_iff_eq,aff]at h4;have nI:a.length=b.length:=by omega
  refine gO F72 ?_;refine J.loop (κ:=Nat) ([4,5]++rg 11 16) (fun k=>[(5,.d (.int .i64 k))]) (fun _=>[]) (fun k=>k<=a.length/\a.take k=b.take k) (fun k=>a.length-k) 0 ⟨afv _,rfl⟩ ?_ ?_
  ·exact sZ
  ·intro k hk IH;refine J.head ag F72 2000 ?_;(conv=>whnf);refine ai (fun h5=>?_) (fun h5=>?_)
   ·have ah:k<a.length:=by simpa using h5
    obtain⟨x,hx⟩:=aH ah;obtain⟨y,hy⟩:=aH (l:=b) (k:=k) (by omega);have gS:=ha x (afh hx);refine gO F72 ?_;refine dU ?_;refine eW x.enc (by omega) (lk hx) rfl ?_;refine gD ?_;refine eW y.enc (by omega) (lk hy) rfl ?_;refine gD ?_;refine ax (Vz x y gS.data gS.sigs) ?_;refine gD ?_;refine gO F72 ?_;refine ai (fun h6=>?_) (fun h6=>?_)
    ·have aJ:x≠y:=by simpa using h6
     refine gO F72 ?_;rw[decide_eq_false (mL hx hy aJ)]
    ·have he:x=y:=by simpa using h6
     refine gO F72 ?_;refine J.back (IH (k+1) ⟨by omega,pg hk.2 hx hy he⟩ (by omega)) ?_;exact sZ
   ·have aC:k=a.length:=by simp at h5;omega
    refine gO F72 ?_;rw[decide_eq_true (pj hk.2 (by omega) (by omega))]
structure bc.fO(z:bc):Prop where
 ae:z.ae.length<=2147483648
 each:∀ s∈z.ae,s.fO
theorem C5(a b:bc)(ha:a.fO):ar E 27 [a.enc,b.enc] (· = .bool (decide (a=b))):=by
 obtain⟨aa,sa⟩:=a;obtain⟨ba,sb⟩:=b;rw[show decide (bc.mk aa sa=bc.mk ba sb)=(decide (aa=ba)&&decide (sa=sb)) by simp];have hs:=VA sa sb ha.ae ha.each;refine eP Tryz.func27 ?_;repeat' (first|with_reducible(first|refine aq (hs) ?_|refine ax (hs) ?_|refine cY ?_|refine cN ?_|refine ai (fun _=>?_) (fun _=>?_))|refine gA Tryz.func27 ?_|refine gB ?_|with_reducible rfl)
 all_goals simp_all
def chain{α:Type}(ok:α->Bool)(rel:α->α->Bool):Option α->List α->Bool
 |_,[]=>true
 |p,x::l=>ok x&&(match p with|none=>true|some q=>rel q x)&&chain ok rel (some x) l
def bN{α:Type}(l:List α)(k:Nat):Option α:=if k=0 then none else l[k-1]?
theorem vy{α:Type}{ok:α->Bool}{rel:α->α->Bool}{l:List α}{k:Nat}{x:α}(hx:l[k]?=some x):chain ok rel (bN l k) (l.drop k)=(ok x&&(match bN l k with|none=>true|some q=>rel q x)&&chain ok rel (bN l (k+1)) (l.drop (k+1))):=by
 have hk:=aX hx;rw[afH hk];have e1:l[k]=x:=by simpa [hk]using hx
 have e2:bN l (k+1)=some x:=by simp[bN,hx]
 rw[e1,e2];rfl
theorem rC{α:Type}{l:List α}{k:Nat}(h0:0<k)(hk:k<=l.length):∃ q,l[k-1]?=some q/\bN l k=some q:=by
 obtain⟨q,hq⟩:=aH (l:=l) (k:=k-1) (by omega);exact⟨q,hq,by simp[bN,hq];omega⟩
def dC(ao:Text)(g0 g:c9):Bool:=(g.au==ao)&&decide (1<=g.key)&&decide (g.key<=1000000)&&decide (1<=g.ku)&&decide (g.ku<=3)&&(g.bL==g0.bL)&&(g.upto==g0.upto)&&decide (0<=g.bL)&&decide (g.bL<=g.upto)&&decide (g.upto<=20000000)
def fY(q g:c9):Bool:=decide (q.key<g.key)
def jS(l:List c9)(ao:Text):Bool:=decide ((l.length:Int)<=6)&&chain (dC ao (l.headD Al)) fY none l
theorem G'{l:List c9}{k:Nat}(h:k<l.length):l[0]?=some (l.headD Al):=by
 cases l with
 |nil=>simp at h
 |cons x l=>rfl
theorem Ha(l:List c9)(ao:Text):ar E 217 [pY l,.str ao] (· = .bool (jS l ao)):=by
 unfold jS;have hg:∃ g0,g0=l.headD Al:=⟨_,rfl⟩;obtain⟨g0,hg⟩:=hg;rw[<- hg];refine eP F217 ?_;refine ai (fun h1=>?_) (fun h1=>?_)
 ·refine gO F217 ?_;simp only[aff]at h1;rw[decide_eq_false (by simp at h1;omega),ahH]
 ·have h6:l.length<=6:=by simp at h1;omega
  rw[decide_eq_true (by omega),afC];refine gO F217 ?_;refine J.loop (κ:=Nat) ([4,5,6]++rg 10 82) (fun k=>[(5,.d (.int .i64 k))]) (fun _=>[]) (fun k=>k<=l.length/\chain (dC ao g0) fY none l=chain (dC ao g0) fY (bN l k) (l.drop k)) (fun k=>l.length-k) 0 ⟨afv _,rfl⟩ ?_ ?_
  ·exact sZ
  ·intro k hk IH;refine J.head ag F217 2000 ?_;(conv=>whnf);refine ai (fun h5=>?_) (fun h5=>?_)
   ·have ah:k<l.length:=by simpa using h5
    obtain⟨x,hx⟩:=aH ah;have h0:=G' ah;rw[<- hg]at h0;have aG:=vy (ok:=dC ao g0) (rel:=fY) hx;rw[<- hk.2]at aG;refine gO F217 ?_;refine aD (aO hx) rfl ?_;refine gO F217 ?_;refine dU ?_;rcases aiy k with b9|b9
    ·have dI:bN l k=none:=by simp[bN,b9]
     rw[dI]at aG;dsimp only at aG;rw[ahT]at aG;repeat' (first|with_reducible(first|refine aD (aO hx) rfl ?_|refine aD (tg h0) rfl ?_|refine cY ?_|refine cN ?_|refine ai (fun _=>?_) (fun _=>?_))|refine gA F217 ?_|refine gB ?_|with_reducible rfl)
     all_goals first
      |(have bI : dC ao g0 x=false := by clear aG hk IH hg;simp_all[dC, fY, bN]<;>(intros;omega)
        rw[aG, bI, ahH]
        done)
      |(exfalso;clear aG hk IH hg;simp_all;done)
      |skip
     all_goals
      refine gO F217 ?_;refine J.back (IH (k+1) ⟨by omega,by rw[aG,show dC ao g0 x=true by clear aG hk IH hg;simp_all[dC,fY,bN]<;>omega,afC]⟩ (by omega)) ?_;exact sZ
    ·obtain⟨q,hq,dI⟩:=rC b9 hk.1;rw[dI]at aG;repeat' (first|with_reducible(first|refine aD (aO hx) rfl ?_|refine aD (tg h0) rfl ?_|refine aD (nA hq b9 (by omega)) rfl ?_|refine cY ?_|refine cN ?_|refine ai (fun _=>?_) (fun _=>?_))|refine gA F217 ?_|refine gB ?_|with_reducible rfl)
     all_goals first
      |(have bI : (dC ao g0 x && fY q x)=false := by clear aG hk IH hg;simp_all[dC, fY, bN]<;>(intros;omega)
        rw[aG, bI, ahH]
        done)
      |(exfalso;clear aG hk IH hg;simp_all;done)
      |skip
     all_goals
      refine gO F217 ?_;refine J.back (IH (k+1) ⟨by omega,by rw[aG,show(dC ao g0 x&&fY q x)=true by clear aG hk IH hg;simp_all[dC,fY,bN]<;>omega,afC]⟩ (by omega)) ?_;exact sZ
   ·have aC:l.length<=k:=by simpa using h5
    refine gO F217 ?_;rw[hk.2,afG aC];rfl
def vz(t:Int)(ao:Bool):Bool:=if ao then t != 3&&t != 6 else t != 4&&t != 7
theorem MI(t:Int)(ao:Bool):ar E 214 [.int .i64 t,.bool ao] (· = .bool (vz t ao)):=by
 refine eP Tryz.func214 ?_;repeat' (first|with_reducible(first|refine cY ?_|refine cN ?_|refine ai (fun _=>?_) (fun _=>?_))|refine gA Tryz.func214 ?_|refine gB ?_|with_reducible rfl)
 all_goals simp_all[vz]
def da(q:bC)(s:Signed):Bool:=s.set.name==q.name&&s.set.type==q.type
def bk(l:List Signed)(q:bC):Int:=match l.findIdx? (da q)with
 |some i=>i
 |none => -1
theorem MJ{l:List Signed}{q:bC}{k:Nat}{x:Signed}(h:∀ j y,j<k->l[j]?=some y->da q y=false)(hx:l[k]?=some x)(hq:da q x=true):bk l q=k:=by
 have:l.findIdx? (da q)=some k:=by
  rw[aiG];have hk:=aX hx;refine⟨hk,?_,fun j hj=>?_⟩
  ·have:l[k]=x:=by simpa [hk]using hx
   rw[this];exact hq
  ·have:=h j l[j] hj (by simp);rw[this];decide
 rw[bk,this]
theorem VB{l:List Signed}{q:bC}(h:∀ j y,j<l.length->l[j]?=some y->da q y=false):bk l q = -1:=by
 have:l.findIdx? (da q)=none:=by
  rw[aiH];intro x hx;obtain⟨j,hj⟩:=afe hx;exact h j x (aX hj) hj
 rw[bk,this]
theorem MK(z:bc)(q:bC)(hl:z.ae.length<=2147483648):ar E 213 [z.enc,q.enc] (· = .int .i64 (bk z.ae q)):=by
 obtain⟨ao,l⟩:=z;simp only at hl ⊢;refine eP Tryz.func213 ?_;refine J.loop (κ:=Nat) (rg 4 32) (fun k=>[(5,.d (.int .i64 k))]) (fun _=>[]) (fun k=>k<=l.length/\∀ j y,j<k->l[j]?=some y->da q y=false) (fun k=>l.length-k) 0 ⟨afv _,fun j y h=>by omega⟩ ?_ ?_
 ·exact sZ
 ·intro k hk IH;refine J.head ag Tryz.func213 2000 ?_;(conv=>whnf);refine ai (fun h5=>?_) (fun h5=>?_)
  ·have ah:k<l.length:=by simpa using h5
   obtain⟨x,hx⟩:=aH ah;refine gO Tryz.func213 ?_;refine dU ?_;repeat' (first|with_reducible(first|refine aD (aO hx) rfl ?_|refine cY ?_|refine cN ?_|refine ai (fun _=>?_) (fun _=>?_))|refine gA Tryz.func213 ?_|refine gB ?_|with_reducible rfl)
   all_goals first
    |(rw[MJ hk.2 hx (by simp_all[da])];done)
    |skip
   all_goals
    refine gO Tryz.func213 ?_;refine J.back (IH (k+1) ⟨by omega,fun j y hj hy=>?_⟩ (by omega)) ?_
    ·rcases adV j k with h|h
     ·exact hk.2 j y h hy
     ·obtain rfl:j=k:=by omega
      rw[hx]at hy;cases hy;simp_all[da]
    ·exact sZ
  ·have aC:k=l.length:=by simp at h5;omega
   subst aC;refine gO Tryz.func213 ?_;rw[VB hk.2]
def xQ(s:Signed):Bool := !(decide ((s.set.data.length:Int)>20)) && !(decide ((s.sigs.length:Int)>20))
def lr(z:bc):Bool:=(z.ae.take 101).all xQ&&decide ((z.ae.length:Int)<=100)
theorem Hb(z:bc):ar E 34 [z.enc] (· = .bool (lr z)):=by
 obtain⟨ao,l⟩:=z;unfold lr;simp only;refine eP F34 ?_;refine J.loop (κ:=Nat) (rg 2 32) (fun k=>[(3,.d (.int .i64 k))]) (fun _=>[]) (fun k=>k<=l.length/\k<=101/\(l.take k).all xQ=true) (fun k=>l.length-k) 0 ⟨afv _,by omega,rfl⟩ ?_ ?_
 ·exact sZ
 ·intro k hk IH;refine J.head ag F34 2000 ?_;(conv=>whnf);refine ai (fun h5=>?_) (fun h5=>?_)
  ·have ah:k<l.length:=by simpa using h5
   obtain⟨x,hx⟩:=aH ah;refine gO F34 ?_;refine ai (fun h6=>?_) (fun h6=>?_)
   ·have ML:k<=100:=by simp at h6;omega
    have eh:(l.take 101)[k]?=some x:=by rw[List.getElem?_take,if_pos (by omega)];exact hx
    refine gO F34 ?_;repeat' (first|with_reducible(first|refine aD (aO hx) rfl ?_|refine cY ?_|refine cN ?_|refine ai (fun _=>?_) (fun _=>?_))|refine gA F34 ?_|refine gB ?_|with_reducible rfl)
    all_goals first
     |(rw[di eh (by simp_all[xQ]),ahH];done)
     |skip
    all_goals
     refine gO F34 ?_;refine J.back (IH (k+1) ⟨by omega,by omega,dv hk.2.2 hx (by simp_all[xQ])⟩ (by omega)) ?_;exact sZ
   ·have ML:k=101:=by simp at h6;omega
    subst ML;refine gO F34 ?_;rw[hk.2.2,afC];simp
  ·have aC:k=l.length:=by simp at h5;omega
   refine gO F34 ?_;refine aR ?_;refine gO F34 ?_;rw[show(l.take 101).all xQ=true by rw[afS (by omega)];exact lY hk.2.2 (by omega),afC];simp
def rD(z:bc):Bool := !(decide (bk z.ae ⟨z.ao,4⟩<0)) && !(decide (bk z.ae ⟨z.ao,2⟩<0))&&z.ae.all fun s=>vz s.set.type (s.set.name==z.ao)
theorem MM(z:bc)(hl:z.ae.length<=2147483648):ar E 142 [z.enc] (· = .bool (rD z)):=by
 obtain⟨ao,l⟩:=z;simp only at hl;have h1:=MK ⟨ao,l⟩ ⟨ao,4⟩ hl;have h2:=MK ⟨ao,l⟩ ⟨ao,2⟩ hl;refine eP F142 ?_;repeat' (first|with_reducible(first|refine aq (h1) ?_|refine ax (h1) ?_|refine aq (h2) ?_|refine ax (h2) ?_|refine cY ?_|refine cN ?_|refine ai (fun _=>?_) (fun _=>?_))|refine gA F142 ?_|refine gB ?_|with_reducible rfl)
 all_goals try (simp_all[rD];done)
 all_goals
  rename_i h3 h4;simp only[rD,h3,h4,ahL,afC];refine gO F142 ?_;refine J.loop (κ:=Nat) ([2,3]++rg 18 26) (fun k=>[(3,.d (.int .i64 k))]) (fun _=>[]) (fun k=>k<=l.length/\(l.take k).all (fun s=>vz s.set.type (s.set.name==ao))=true) (fun k=>l.length-k) 0 ⟨afv _,rfl⟩ ?_ ?_
  ·exact sZ
  ·intro k hk IH;refine J.head ag F142 2000 ?_;(conv=>whnf);refine ai (fun h5=>?_) (fun h5=>?_)
   ·have ah:k<l.length:=by simpa using h5
    obtain⟨x,hx⟩:=aH ah;refine gO F142 ?_;refine dU ?_;repeat' (first|with_reducible(first|refine aD (aO hx) rfl ?_|refine aq (MI _ _) ?_|refine ax (MI _ _) ?_|refine cY ?_|refine cN ?_|refine ai (fun _=>?_) (fun _=>?_))|refine gA F142 ?_|refine gB ?_|with_reducible rfl)
    all_goals first
     |(rw[di hx (by simp_all)];done)
     |skip
    all_goals
     refine gO F142 ?_;refine J.back (IH (k+1) ⟨by omega,dv hk.2 hx (by simp_all)⟩ (by omega)) ?_;exact sZ
   ·have aC:l.length<=k:=by simpa using h5
    refine gO F142 ?_;rw[lY hk.2 aC]
def mM:Text->Option Text->List Signed->Bool
 |_,_,[]=>true
 |al,p,s::l=>(match p with
   |none=>true
   |some n=>if n==s.set.name then !((s.set.name != []&&s.set.type==3)||(s.set.name != []&&(s.set.name==if s.set.type==3 then s.set.name else al)&&s.set.type != 3&&s.set.type != 8))else true)
  && mM (if s.set.type==3 then s.set.name else al) (some s.set.name) l
theorem VC{al : Text}{l : List Signed}{k : Nat}{x : Signed}(hx : l[k]?=some x) : mM al (bN (l.map (·.set.name)) k) (l.drop k)=((match bN (l.map (·.set.name)) k with
      |none => true
      |some n => if n == x.set.name then !((x.set.name != [] && x.set.type == 3) || (x.set.name != [] && (x.set.name == if x.set.type == 3 then x.set.name else al) && x.set.type != 3 && x.set.type != 8))else true)
  && mM (if x.set.type==3 then x.set.name else al) (bN (l.map (·.set.name)) (k+1)) (l.drop (k+1))):=by
 have hk:=aX hx;rw[afH hk];have e1:l[k]=x:=by simpa [hk]using hx
 have e2:bN (l.map (·.set.name)) (k+1)=some x.set.name:=by simp[bN,hx]
 rw[e1,e2];rfl
theorem MN(z:bc)(hl:z.ae.length<=2147483648):ar E 143 [z.enc] (· = .bool (mM [] none z.ae)):=by
 obtain⟨ao,l⟩:=z;simp only at hl ⊢;refine eP F143 ?_;refine J.loop (κ:=Nat × Text) [2,3,4,5,6,7,8,9,10,11,12,13,14,15,16,17,18,19,20,21,22,23,24,25,26,27,28,29,30,31,32,33,34,35,36,37,38,39,40,41,42,43,44,45,46,47,48,49,50,51,52,53,54,55,56,57,58,59,60,61,62,63,64,65,66,67,68,69,70,71,72,73,74,75,76,77,78,79,80,81,82,83,84,85] (fun k=>[(4,.d (.int .i64 k.1)),(3,.d (.str k.2))]) (fun _=>[]) (fun k=>k.1<=l.length/\mM [] none l=mM k.2 (bN (l.map (·.set.name)) k.1) (l.drop k.1)) (fun k=>l.length-k.1) (0,[]) ⟨afv _,rfl⟩ ?_ ?_
 ·exact sZ
 ·rintro⟨k,al⟩ hk IH;simp only at hk;refine J.head ag F143 2000 ?_;(conv=>whnf);refine ai (fun h5=>?_) (fun h5=>?_)
  ·have ah:k<l.length:=by simpa using h5
   obtain⟨x,hx⟩:=aH ah;have aG:=VC (al:=al) hx;rw[<- hk.2]at aG;refine gO F143 ?_;refine aD (aO hx) rfl ?_;refine gO F143 ?_;refine ai (fun h6=>?_) (fun h6=>?_);all_goals
    rcases aiy k with b9|b9
    ·have dI:bN (l.map (·.set.name)) k=none:=by simp[bN,b9]
     rw[dI]at aG;refine gO F143 ?_;repeat' (first|with_reducible(first|refine aD (aO hx) rfl ?_|refine cY ?_|refine cN ?_|refine ai (fun _=>?_) (fun _=>?_))|refine gA F143 ?_|refine gB ?_|with_reducible rfl)
     refine gO F143 ?_;refine dU ?_;repeat' (first|with_reducible(first|refine aD (aO hx) rfl ?_|refine cY ?_|refine cN ?_|refine ai (fun _=>?_) (fun _=>?_))|refine gA F143 ?_|refine gB ?_|with_reducible rfl)
     all_goals first
      |(exfalso;clear aG hk IH;simp_all;done)
      |skip
     all_goals
      refine gO F143 ?_;refine J.back (IH (k+1,if x.set.type==3 then x.set.name else al) ⟨by simp only;omega,by simp only;rw[aG];simp⟩ (by simp only;omega)) ?_;(conv=>whnf);repeat (first|exact trivial|(refine And.intro (by first|with_reducible rfl|exact congrArg (DV.int .i64) (by omega)|exact congrArg DV.str (by simp[h6])|exact congrArg (DV.int .i64) (wrap64 (by omega) (by omega))|exact congrArg (DV.int .i64) ((wrap64 (by omega) (by omega)).trans (by omega))) ?_;conv=>whnf))
    ·obtain⟨q,hq,-⟩:=rC b9 hk.1;have dI:bN (l.map (·.set.name)) k=some q.set.name:=by simp[bN,hq];omega
     rw[dI]at aG;refine gO F143 ?_;repeat' (first|with_reducible(first|refine aD (aO hx) rfl ?_|refine aD (nA hq b9 (by omega)) rfl ?_|refine cY ?_|refine cN ?_|refine ai (fun _=>?_) (fun _=>?_))|refine gA F143 ?_|refine gB ?_|with_reducible rfl)
     refine gO F143 ?_;refine dU ?_;repeat' (first|with_reducible(first|refine aD (aO hx) rfl ?_|refine aD (nA hq b9 (by omega)) rfl ?_|refine cY ?_|refine cN ?_|refine ai (fun _=>?_) (fun _=>?_))|refine gA F143 ?_|refine gB ?_|with_reducible rfl)
     all_goals first
      |(rw[aG];clear aG hk IH;simp_all;done)
      |(exfalso;clear aG hk IH;simp_all;done)
      |skip
     all_goals
      refine gO F143 ?_;refine J.back (IH (k+1,if x.set.type==3 then x.set.name else al) ⟨by simp only;omega,by simp only;rw[aG];clear aG hk IH;simp_all⟩ (by simp only;omega)) ?_;(conv=>whnf);repeat (first|exact trivial|(refine And.intro (by first|with_reducible rfl|exact congrArg (DV.int .i64) (by omega)|exact congrArg DV.str (by simp[h6])|exact congrArg (DV.int .i64) (wrap64 (by omega) (by omega))|exact congrArg (DV.int .i64) ((wrap64 (by omega) (by omega)).trans (by omega))) ?_;conv=>whnf))
  ·have aC:l.length<=k:=by simpa using h5
   refine gO F143 ?_;rw[hk.2,afG aC];rfl
def iT(ao:Text)(s:Signed):Bool:=s.set.type==2&&s.set.name != ao
def cb(ao:Text)(l:List Signed):List Text:=(l.filter (iT ao)).map (·.set.name)
theorem VE{ao:Text}{l:List Signed}{k:Nat}{x:Signed}(h:l[k]?=some x):cb ao (l.take (k+1))=cb ao (l.take k)++(if iT ao x then[x.set.name]else[]):=by
 rw[cG h];simp only[cb,List.filter_append,List.map_append]
 congr 1
 cases hc:iT ao x<;>simp[hc]
theorem Hc(ao:Text)(l:List Signed):(cb ao l).length<=l.length:=by
 simp only[cb,aff];exact List.length_filter_le _ _
theorem qi{ao:Text}{l:List Signed}{c:Text}(h:c∈cb ao l):∃ s∈l,s.set.name=c/\iT ao s=true:=by
 simp only[cb,List.mem_map,List.mem_filter]at h;obtain⟨s,⟨h1,h2⟩,h3⟩:=h;exact⟨s,h1,h3,h2⟩
theorem VF(z:bc)(hl:z.ae.length<=1000000000):ar E 329 [z.enc] (· = .sl ((cb z.ao z.ae).map .str)):=by
 obtain⟨ao,l⟩:=z;simp only at hl ⊢;refine eP Tryz.func329 ?_;refine J.wX 3 (9,1) (by decide) rfl ?_;(conv=>whnf);refine J.loop (κ:=Nat) (rg 3 31) (fun k=>[(4,.d (.int .i64 k)),(3,.own 1 1)]) (fun k=>[(1,.arr 1 (9,1) ((cb ao (l.take k)).map .str))]) (fun k=>k<=l.length) (fun k=>l.length-k) 0 (afv _) ?_ ?_
 ·(conv=>whnf);repeat (first|exact trivial|(refine And.intro (by first|with_reducible rfl|exact congrArg (DV.int .i64) (by omega)|exact rfl|exact congrArg (DV.int .i64) (wrap64 (by omega) (by omega))|exact congrArg (DV.int .i64) ((wrap64 (by omega) (by omega)).trans (by omega))) ?_;conv=>whnf))
 ·intro k hk IH;have dL:=Hc ao (l.take k);rw[aeu]at dL;refine J.head ag Tryz.func329 2000 ?_;(conv=>whnf);refine ai (fun h5=>?_) (fun h5=>?_)
  ·have ah:k<l.length:=by simpa using h5
   obtain⟨x,hx⟩:=aH ah;have aG:=VE (ao:=ao) hx;refine gO Tryz.func329 ?_;repeat' (first|with_reducible(first|refine aD (aO hx) rfl ?_|refine cY ?_|refine cN ?_|refine ai (fun _=>?_) (fun _=>?_))|refine gA Tryz.func329 ?_|refine gB ?_|with_reducible rfl)
   all_goals first
    |(refine aW ⟨by simp;omega, by simp[DV.cells]⟩ ?_
      have hc : iT ao x=true := by simp_all[iT])
    |(have hc:iT ao x=false:=by simp_all[iT])
   all_goals
    rw[hc]at aG;refine gO Tryz.func329 ?_;refine J.back (IH (k+1) (by omega) (by omega)) ?_;(conv=>whnf);repeat (first|exact trivial|(refine sI ?_;conv=>whnf))
    refine And.intro (by rw[aG];simp) ?_;exact sZ
  ·have aC:l.length<=k:=by simpa using h5
   refine gO Tryz.func329 ?_;rw[afS aC]
def lu(out:List Text)(c:Text):List Text:=match out.getLast? with
 |none=>out++[c]
 |some d=>if Nm.under c d then out else out++[c]
def fq(l:List Text):List Text:=l.foldl lu []
theorem VG{l:List Text}{k:Nat}{x:Text}(h:l[k]?=some x):fq (l.take (k+1))=lu (fq (l.take k)) x:=by
 rw[cG h,fq,ah8];rfl
theorem VH(o:List Text)(c:Text):(lu o c).length<=o.length+1:=by
 unfold lu;split
 ·simp
 ·split<;>simp
theorem MO(l:List Text):(fq l).length<=l.length:=by
 have:∀ (l o:List Text),(l.foldl lu o).length<=o.length+l.length:=by
  intro l
  induction l with
  |nil=>simp
  |cons x l ih=>intro o;have:=ih (lu o x);have:=VH o x;simp;omega
 have:=this l []
 simpa [fq]using this
theorem xR{l:List Text}:∀ c∈fq l,c∈l:=by
 have:∀ (l o:List Text),∀ c∈l.foldl lu o,c∈o\/c∈l:=by
  intro l
  induction l with
  |nil=>intro o c h;exact .inl h
  |cons x l ih =>
   intro o c h;rcases ih (lu o x) c h with h|h
   ·have:c∈o\/c=x:=by
     unfold lu at h;split at h
     ·simpa using h
     ·split at h
      ·exact .inl h
      ·simpa using h
    rcases this with h|h
    ·exact .inl h
    ·exact .inr (by simp[h])
   ·exact .inr (aeR _ h)
 intro c h;rcases this l [] c h with h|h
 ·simp at h
 ·exact h
theorem VI(z:bc)(hl:z.ae.length<=1000000000)(hn:∀ s∈z.ae,s.set.name.length<=1000):ar E 276 [z.enc] (· = .sl ((fq (cb z.ao z.ae)).map .str)):=by
 have eo:∀ c∈cb z.ao z.ae,c.length<=1000:=fun c hc=>by
  obtain⟨s,h1,rfl,-⟩:=qi hc;exact hn s h1
 have dL:=Hc z.ao z.ae;refine eP F276 ?_
 with_reducible refine aq (VF z hl) ?_
 refine gO F276 ?_;generalize cb z.ao z.ae=l at *;refine J.wX 4 (9,1) (by decide) rfl ?_;(conv=>whnf);refine J.loop (κ:=Nat) ([4,5]++rg 8 30) (fun k=>[(5,.d (.int .i64 k)),(4,.own 1 1)]) (fun k=>[(1,.arr 1 (9,1) ((fq (l.take k)).map .str))]) (fun k=>k<=l.length) (fun k=>l.length-k) 0 (afv _) ?_ ?_
 ·(conv=>whnf);repeat (first|exact trivial|(refine And.intro (by first|with_reducible rfl|exact congrArg (DV.int .i64) (by omega)|exact rfl|exact congrArg (DV.int .i64) (wrap64 (by omega) (by omega))|exact congrArg (DV.int .i64) ((wrap64 (by omega) (by omega)).trans (by omega))) ?_;conv=>whnf))
 ·intro k hk IH;have C6:=MO (l.take k);rw[aeu]at C6;have VJ:∀ c∈fq (l.take k),c.length<=1000:=fun c hc=>eo c (List.mem_of_mem_take (xR c hc));refine J.head ag F276 2000 ?_;(conv=>whnf);refine ai (fun h5=>?_) (fun h5=>?_)
  ·have ah:k<l.length:=by simpa using h5
   obtain⟨x,hx⟩:=aH ah;have gS:=eo x (afh hx);have aG:=VG hx;generalize fq (l.take k)=o at *;rcases aiC o with rfl|⟨i,d,rfl⟩
   ·refine gO F276 ?_;refine dU ?_;refine aY (by simp) ?_;refine gD ?_;refine gO F276 ?_;refine a8 ?_;refine gO F276 ?_;refine aD (aO hx) rfl ?_;refine gO F276 ?_;refine aW ⟨by simp,by simp[DV.cells]⟩ ?_;refine gO F276 ?_;refine J.back (IH (k+1) (by omega) (by omega)) ?_;(conv=>whnf);repeat (first|exact trivial|(refine sI ?_;conv=>whnf))
    refine And.intro (by rw[aG];simp[lu]) ?_;exact sZ
   ·simp only[aiD]at *;have hw:IntKind.i64.wrap ((((i++[d]).map DV.str).length:Int)-1)=(i.length:Int):=by
     rw[wrap64 (by simp) (by simp;simp at C6;omega)];simp
    have dW:((i++[d]).map DV.str)[((i.length:Nat):Int).toNat]?=some (.str d):=by simp
    have nG:=VJ d (by simp);have bg:lu (i++[d]) x=if Nm.under x d then i++[d]else i++[d]++[x]:=by simp[lu]
    rw[bg]at aG;refine gO F276 ?_;refine dU ?_;refine aU (by simp;omega) ?_;refine gD ?_;refine aD (aO hx) rfl ?_;refine gD ?_;rw[hw];refine aW ⟨by omega,by simp;omega⟩ ?_;refine gD ?_;refine eW (.str d) (by omega) (by simp) rfl ?_;refine gD ?_;refine ax (Aa _ _ gS nG) ?_;refine gD ?_;cases hu:Nm.under x d
    ·rw[hu]at aG;refine gO F276 ?_;refine aY (by decide) ?_;refine gO F276 ?_;refine aD (aO hx) rfl ?_;refine gO F276 ?_;refine aW ⟨by simp;simp at C6;omega,by simp[DV.cells]⟩ ?_;refine gO F276 ?_;refine J.back (IH (k+1) (by omega) (by omega)) ?_;(conv=>whnf);repeat (first|exact trivial|(refine sI ?_;conv=>whnf))
     refine And.intro (by rw[aG];simp) ?_;exact sZ
    ·rw[hu]at aG;refine gO F276 ?_;refine aU (by decide) ?_;refine gO F276 ?_;refine J.back (IH (k+1) (by omega) (by omega)) ?_;(conv=>whnf);repeat (first|exact trivial|(refine sI ?_;conv=>whnf))
     refine And.intro (by rw[aG];simp) ?_;exact sZ
  ·have aC:l.length<=k:=by simpa using h5
   refine gO F276 ?_;rw[afS aC]
def eY(cP:List Text)(n:Text)(k:Nat):Nat:=k+((cP.drop k).takeWhile fun c=>decide (bD c n<=0)).length
theorem VK{cP:List Text}{n c:Text}{k:Nat}(h:cP[k]?=some c)(ho:bD c n<=0):eY cP n k=eY cP n (k+1):=by
 have hk:=aX h;have e1:cP[k]=c:=by simpa [hk]using h
 unfold eY;rw[afH hk,e1,List.takeWhile_cons_of_pos (by simpa using ho)];simp;omega
theorem VM{cP:List Text}{n c:Text}{k:Nat}(h:cP[k]?=some c)(ho:¬ bD c n<=0):eY cP n k=k:=by
 have hk:=aX h;have e1:cP[k]=c:=by simpa [hk]using h
 unfold eY;rw[afH hk,e1,List.takeWhile_cons_of_neg (by simpa using ho)];simp
theorem VN{cP:List Text}{n:Text}{k:Nat}(h:cP.length<=k):eY cP n k=k:=by
 unfold eY;rw[afG h];simp
theorem C7{cP:List Text}{n:Text}{k:Nat}(h:k<=cP.length):eY cP n k<=cP.length:=by
 unfold eY;have h1:((cP.drop k).takeWhile fun c=>decide (bD c n<=0)).length<=(cP.drop k).length:=(aiI _).length_le;simp at h1 ⊢;omega
def mN(cP:List Text)(n:Text)(k:Nat):Text:=if k=0 then[]else match cP[k-1]? with
 |some c=>if Nm.under n c then c else[]
 |none=>[]
def nJ(cP:List Text):Nat->List Text->List Text
 |_,[]=>[]
 |k,n::ns=>mN cP n (eY cP n k)::nJ cP (eY cP n k) ns
theorem MP(cP:List Text):∀ (k:Nat) (ns:List Text),(nJ cP k ns).length=ns.length
 |_,[]=>rfl
 |k,n::ns=>by simp[nJ,MP cP _ ns]
def jk(z:bc):List Text:=nJ (fq (cb z.ao z.ae)) 0 (z.ae.map (·.set.name))
theorem tz(z:bc):(jk z).length=z.ae.length:=by simp[jk,MP]
theorem tA{α:Type}{B:List α}{e x:α}{i n:Nat}(hB:B.length=n)(h:B[i]?=some x):(B.take i++ad6 (n-i) e).set i x=B.take (i+1)++ad6 (n-(i+1)) e:=by
 have hi:=aX h;rw[cG h,List.set_append_right _ _ (by simp;omega)];simp only[aeu,afb]
 congr 1
 rw[show n-i=(n-(i+1))+1 by omega,afc];simp[Nat.min_eq_left (Nat.le_of_lt hi)]
theorem C8{α:Type}{B:List α}{e:α}{i n:Nat}(hB:B.length=n)(h:B[i]?=some e):B.take i++ad6 (n-i) e=B.take (i+1)++ad6 (n-(i+1)) e:=by
 have hi:=aX h;rw[cG h,afb]
 congr 1
 rw[show n-i=(n-(i+1))+1 by omega,afc];rfl
theorem tB{α:Type}{B:List α}{e:α}{i n:Nat}(hB:B.length=n)(hi:i<n):(B.take i++ad6 (n-i) e)[i]?=some e:=by
 rw[ae9 (by simp;omega)];simp only[aeu];rw[show i-min i B.length=0 by omega];rw[List.getElem?_replicate,if_pos (by omega)]
theorem MQ(z:bc)(hl:z.ae.length<=1000000)(hn:∀ s∈z.ae,s.set.name.length<=1000):ar E 215 [z.enc] (· = .sl ((jk z).map .str)):=by
 have eo:∀ c∈fq (cb z.ao z.ae),c.length<=1000:=fun c hc=>by
  obtain⟨s,h1,rfl,-⟩:=qi (xR c hc);exact hn s h1
 have dL:(fq (cb z.ao z.ae)).length<=z.ae.length:=Nat.le_trans (MO _) (Hc _ _);have iy:=tz z;have Hd:jk z=nJ (fq (cb z.ao z.ae)) 0 (z.ae.map (·.set.name)):=rfl;generalize jk z=B at *;refine eP F215 ?_
 with_reducible refine aq (VI z (by omega) hn) ?_
 refine gO F215 ?_;generalize fq (cb z.ao z.ae)=cP at *;obtain⟨ao,l⟩:=z;simp only at *;refine aW ?_ ?_
 ·simp;omega
 ·refine gO F215 ?_;refine J.loop (κ:=Nat × Nat) [5,6,7,14,15,16,17,18,19,20,21,22,23,24,25,26,27,28,29,30,31,32,33,34,35,36,37,38,39,40,41,42,43,44,45,46,47,48,49,50,51,52,53,54,55,56,57,58,59,60,61] (fun k=>[(6,.d (.int .i64 k.1)),(5,.d (.int .i64 k.2)),(4,.own 1 0)]) (fun k=>[(1,.arr 0 (9,1) ((B.take k.1++ad6 (l.length-k.1) []).map .str))]) (fun k=>k.1<=l.length/\k.2<=cP.length/\B.drop k.1=nJ cP k.2 ((l.drop k.1).map (·.set.name))) (fun k=>l.length-k.1) (0,0) ⟨afv _,afv _,by simpa using Hd⟩ ?_ ?_
  ·(conv=>whnf);repeat (first|exact trivial|(refine sI ?_;conv=>whnf))
   refine And.intro (by simp) ?_;exact sZ
  ·rintro⟨i,k⟩ hk IH;simp only at hk;refine J.head ag F215 2000 ?_;(conv=>whnf);refine ai (fun h5=>?_) (fun h5=>?_)
   ·have ah:i<l.length:=by simpa using h5
    obtain⟨x,hx⟩:=aH ah;have gS:=hn x (afh hx);have He:(l.drop i).map (·.set.name)=x.set.name::(l.drop (i+1)).map (·.set.name):=by
     have e1:l[i]=x:=by simpa [ah]using hx
     rw[afH ah,e1];rfl
    obtain⟨-,fL,vA⟩:=hk;rw[He,nJ]at vA;have fP:B[i]?=some (mN cP x.set.name (eY cP x.set.name k)):=by
     have:=congrArg (fun l=>l[0]?) vA
     simpa using this
    have jl:B.drop (i+1)=nJ cP (eY cP x.set.name k) ((l.drop (i+1)).map (·.set.name)):=by
     have:=congrArg List.tail vA
     simpa using this
    have rE:=C7 (n:=x.set.name) fL;refine gO F215 ?_;refine aD (aO hx) rfl ?_;refine gO F215 ?_;refine J.loop (κ:=Nat) ([5]++rg 28 15) (fun j=>[(5,.d (.int .i64 j))]) (fun _=>[]) (fun j=>j<=cP.length/\eY cP x.set.name k=eY cP x.set.name j) (fun j=>cP.length-j) k ⟨fL,rfl⟩ ?_ ?_
    ·exact sZ
    ·intro j hj pk;have leave:∀ (CG:eY cP x.set.name k=j),True:=fun _=>trivial;refine J.head ag F215 2000 ?_;(conv=>whnf);refine ai (fun h6=>?_) (fun h6=>?_)
     ·have l6:j<cP.length:=by simpa using h6
      obtain⟨c,hc⟩:=aH l6;have VO:=eo c (afh hc);refine gO F215 ?_;refine aD (aO hc) rfl ?_;refine gO F215 ?_
      with_reducible refine aq (G6 _ _ VO gS) ?_
      refine gO F215 ?_;refine ai (fun h7=>?_) (fun h7=>?_)
      ·refine gO F215 ?_;refine J.back (pk (j+1) ⟨by omega,by rw[hj.2];exact VK hc (by simpa using h7)⟩ (by omega)) ?_;exact sZ
      ·have Hf:eY cP x.set.name k=j:=by rw[hj.2];exact VM hc (by simpa using h7)
       rw[Hf]at fP jl;refine gO F215 ?_;rcases aiy j with nr|nr
       ·have kj:mN cP x.set.name j=[]:=by simp[mN,nr]
        rw[kj]at fP;refine aU (by simp;omega) ?_;refine gO F215 ?_;refine aR ?_;refine gO F215 ?_;refine J.back (IH (i+1,j) ⟨by simp only;omega,by simp only;omega,jl⟩ (by simp only;omega)) ?_;(conv=>whnf);repeat (first|exact trivial|(refine sI ?_;conv=>whnf))
        refine And.intro (by rw[C8 iy fP]) ?_;exact sZ
       ·obtain⟨c,hc⟩:=aH (l:=cP) (k:=j-1) (by omega);have Hg:=eo c (afh hc);have kj:mN cP x.set.name j=if Nm.under x.set.name c then c else[]:=by simp[mN,hc];omega
        rw[kj]at fP;refine aY (by simp;omega) ?_;refine gO F215 ?_;refine aD (nA hc nr (by omega)) rfl ?_;refine gO F215 ?_
        with_reducible refine aq (Aa _ _ gS Hg) ?_
        refine gO F215 ?_;cases hu:Nm.under x.set.name c
        ·rw[hu]at fP;refine aR ?_;refine gO F215 ?_;refine J.back (IH (i+1,j) ⟨by simp only;omega,by simp only;omega,jl⟩ (by simp only;omega)) ?_;(conv=>whnf);repeat (first|exact trivial|(refine sI ?_;conv=>whnf))
         refine And.intro (by rw[C8 iy (by simpa using fP)]) ?_;exact sZ
        ·rw[hu]at fP;refine a8 ?_;refine gO F215 ?_;refine aD (nA hc nr (by omega)) rfl ?_;refine gO F215 ?_;refine aW ⟨by omega,by simp;omega⟩ ?_;refine gO F215 ?_;refine eW (.str []) (by omega) (by simp only[afr,ad1];rw[tB iy ah];rfl) rfl ?_;refine gO F215 ?_;refine J.back (IH (i+1,j) ⟨by simp only;omega,by simp only;omega,jl⟩ (by simp only;omega)) ?_;(conv=>whnf);repeat (first|exact trivial|(refine sI ?_;conv=>whnf))
         refine And.intro (by rw[<- tA (e:=[]) iy (by simpa using fP)];simp[aiz]) ?_;exact sZ
     ·have Hf:eY cP x.set.name k=j:=by rw[hj.2];exact VN (by simpa using h6)
      rw[Hf]at fP jl;refine gO F215 ?_;refine aR ?_;refine gO F215 ?_;rcases aiy j with nr|nr
      ·have kj:mN cP x.set.name j=[]:=by simp[mN,nr]
       rw[kj]at fP;refine aU (by simp;omega) ?_;refine gO F215 ?_;refine aR ?_;refine gO F215 ?_;refine J.back (IH (i+1,j) ⟨by simp only;omega,by simp only;omega,jl⟩ (by simp only;omega)) ?_;(conv=>whnf);repeat (first|exact trivial|(refine sI ?_;conv=>whnf))
       refine And.intro (by rw[C8 iy fP]) ?_;exact sZ
      ·obtain⟨c,hc⟩:=aH (l:=cP) (k:=j-1) (by omega);have Hg:=eo c (afh hc);have kj:mN cP x.set.name j=if Nm.under x.set.name c then c else[]:=by simp[mN,hc];omega
       rw[kj]at fP;refine aY (by simp;omega) ?_;refine gO F215 ?_;refine aD (nA hc nr (by omega)) rfl ?_;refine gO F215 ?_
       with_reducible refine aq (Aa _ _ gS Hg) ?_
       refine gO F215 ?_;cases hu:Nm.under x.set.name c
       ·rw[hu]at fP;refine aR ?_;refine gO F215 ?_;refine J.back (IH (i+1,j) ⟨by simp only;omega,by simp only;omega,jl⟩ (by simp only;omega)) ?_;(conv=>whnf);repeat (first|exact trivial|(refine sI ?_;conv=>whnf))
        refine And.intro (by rw[C8 iy (by simpa using fP)]) ?_;exact sZ
       ·rw[hu]at fP;refine a8 ?_;refine gO F215 ?_;refine aD (nA hc nr (by omega)) rfl ?_;refine gO F215 ?_;refine aW ⟨by omega,by simp;omega⟩ ?_;refine gO F215 ?_;refine eW (.str []) (by omega) (by simp only[afr,ad1];rw[tB iy ah];rfl) rfl ?_;refine gO F215 ?_;refine J.back (IH (i+1,j) ⟨by simp only;omega,by simp only;omega,jl⟩ (by simp only;omega)) ?_;(conv=>whnf);repeat (first|exact trivial|(refine sI ?_;conv=>whnf))
        refine And.intro (by rw[<- tA (e:=[]) iy (by simpa using fP)];simp[aiz]) ?_;exact sZ
   ·have aC:l.length<=i:=by simpa using h5
    refine gO F215 ?_;simp only[show l.length-i=0 by omega,aiE,ags];rw[afS (by omega)]
theorem xS{α β:Type}{a:List α}{b:List β}{k:Nat}{x:α}{y:β}(ha:a[k]?=some x)(hb:b[k]?=some y):(a.zip b)[k]?=some (x,y):=by
 rw[List.getElem?_zip_eq_some];exact⟨ha,hb⟩
def rF(s:Signed)(b:Text):Bool:=b==[]||(s.set.type != 2&&s.set.type != 1)
def rG(z:bc):List Bool:=(z.ae.zip (jk z)).map fun p=>rF p.1 p.2
theorem Hh(z:bc):(rG z).length=z.ae.length:=by simp[rG,tz]
theorem VP(z:bc)(hl:z.ae.length<=1000000)(hn:∀ s∈z.ae,s.set.name.length<=1000):ar E 216 [z.enc] (· = .sl ((rG z).map .bool)):=by
 have iy:=tz z;have Hi:=Hh z;have hO:rG z=(z.ae.zip (jk z)).map fun p=>rF p.1 p.2:=rfl;generalize rG z=O at *;refine eP F216 ?_
 with_reducible refine aq (MQ z hl hn) ?_
 refine gO F216 ?_;generalize jk z=B at *;obtain⟨ao,l⟩:=z;simp only at *;refine aW (by simp;omega) ?_;refine gO F216 ?_;refine J.loop (κ:=Nat) ([5,6]++rg 13 30) (fun k=>[(5,.d (.int .i64 k)),(4,.own 1 0)]) (fun k=>[(1,.arr 0 (4,1) ((O.take k++ad6 (l.length-k) false).map .bool))]) (fun k=>k<=l.length) (fun k=>l.length-k) 0 (afv _) ?_ ?_
 ·(conv=>whnf);repeat (first|exact trivial|(refine sI ?_;conv=>whnf))
  refine And.intro (by simp) ?_;exact sZ
 ·intro k hk IH;refine J.head ag F216 2000 ?_;(conv=>whnf);refine ai (fun h5=>?_) (fun h5=>?_)
  ·have ah:k<l.length:=by simpa using h5
   obtain⟨x,hx⟩:=aH ah;obtain⟨b,hb⟩:=aH (l:=B) (k:=k) (by omega);have MR:O[k]?=some (rF x b):=by rw[hO,ad1,xS hx hb];rfl
   have MS:=tB (e:=false) Hi ah;have dR:=tA (e:=false) Hi MR;refine gO F216 ?_;repeat' (first|with_reducible(first|refine aD (aO hx) rfl ?_|refine aD (aO hb) rfl ?_|refine cY ?_|refine cN ?_|refine ai (fun _=>?_) (fun _=>?_))|refine gA F216 ?_|refine gB ?_|with_reducible rfl)
   all_goals
    refine aW ⟨by omega,by simp;omega⟩ ?_;refine gO F216 ?_;refine eW (.bool false) (by omega) (by simp only[afr,ad1];rw[MS];rfl) rfl ?_;refine gO F216 ?_;refine J.back (IH (k+1) (by omega) (by omega)) ?_;(conv=>whnf);repeat (first|exact trivial|(refine sI ?_;conv=>whnf))
    refine And.intro (by rw[<- dR];simp only[afr,aiz];congr 2;clear dR MS MR hO IH hb;rcases b with _|⟨c,b⟩<;>simp_all[rF]) ?_;exact sZ
  ·have aC:l.length<=k:=by simpa using h5
   refine gO F216 ?_;simp only[show l.length-k=0 by omega,aiE,ags];rw[afS (by omega)]
def fB(ao:Text)(s:Signed):Bool:=er s.set&&Nm.under s.set.name ao
def ia(q s:Signed):Bool:=decide (oB q.set s.set<0)
def oC(z:bc):Bool:=Nm.valid z.ao && !l5 z.ao && !(decide ((z.ae.length:Int)>20000))&&chain (fB z.ao) ia none z.ae
theorem tC{s:cM}(h:er s=true):Nm.valid s.name=true:=by
 simp only[er,aft]at h;exact h.1.1.1.1.1.1
structure bc.Fits(z:bc):Prop where
 ao:z.ao.length<=maxLen
 ae:∀ s∈z.ae,s.set.Fits
theorem MT(z:bc)(hf:z.Fits):ar E 141 [z.enc] (· = .bool (oC z)):=by
 obtain⟨ao,l⟩:=z;have oW:ao.length<=maxLen:=hf.ao;have gQ:∀ s∈l,s.set.Fits:=hf.ae;unfold oC;simp only;cases hv:Nm.valid ao
 ·refine eP F141 ?_
  with_reducible refine aq (eO _ oW) ?_
  refine gO F141 ?_;rw[hv];refine aY rfl ?_;refine gO F141 ?_;refine a8 ?_;refine gO F141 ?_;refine a8 ?_;refine gO F141 ?_;simp
 ·have rE:=dV hv;refine eP F141 ?_
  with_reducible refine aq (eO _ oW) ?_
  refine gO F141 ?_;rw[hv];refine aU rfl ?_;refine gO F141 ?_
  with_reducible refine aq (C1 ao (by omega)) ?_
  refine gO F141 ?_;cases hw:l5 ao
  case true =>
   refine a8 ?_;refine gO F141 ?_;refine a8 ?_;refine gO F141 ?_;simp
  refine aR ?_;refine gO F141 ?_;refine ai (fun h3=>?_) (fun h3=>?_)
  ·refine gO F141 ?_;simp only[aff]at h3;rw[h3];simp
  ·simp only[aff]at h3;rw[h3];simp only[ahL,afC];have pn:l.length<=20000:=by simp at h3;omega
   refine gO F141 ?_;refine J.loop (κ:=Nat) ([2,3,4]++rg 20 40) (fun k=>[(3,.d (.int .i64 k))]) (fun _=>[]) (fun k=>k<=l.length/\chain (fB ao) ia none l=chain (fB ao) ia (bN l k) (l.drop k)/\∀ q,bN l k=some q->er q.set=true) (fun k=>l.length-k) 0 ⟨afv _,rfl,fun q h=>by simp[bN]at h⟩ ?_ ?_
   ·exact sZ
   ·intro k hk IH;refine J.head ag F141 2000 ?_;(conv=>whnf);refine ai (fun h5=>?_) (fun h5=>?_)
    ·have ah:k<l.length:=by simpa using h5
     obtain⟨x,hx⟩:=aH ah;have aG:=vy (ok:=fB ao) (rel:=ia) hx;rw[<- hk.2.1]at aG;have oD:=gQ x (afh hx);have vB:bN l (k+1)=some x:=by simp[bN,hx]
     cases hs:er x.set
     ·refine gO F141 ?_;refine aD (aO hx) rfl ?_;refine gO F141 ?_;refine dU ?_;refine ax (xO x.set oD) ?_;refine gD ?_;rw[hs];refine aY rfl ?_;refine gD ?_;repeat' (first|with_reducible(first|refine cY ?_|refine cN ?_|refine ai (fun _=>?_) (fun _=>?_))|refine gA F141 ?_|refine gB ?_|with_reducible rfl)
      rw[aG,fB,hs];simp
     ·have cI:=tC hs;have gS:=dV cI;refine gO F141 ?_;refine aD (aO hx) rfl ?_;refine gO F141 ?_;refine dU ?_;refine ax (xO x.set oD) ?_;refine gD ?_;rw[hs];refine aU rfl ?_;refine gD ?_;refine ax (Aa x.set.name ao (by omega) (by omega)) ?_;refine gD ?_;rcases aiy k with b9|b9
      ·have dI:bN l k=none:=by simp[bN,b9]
       rw[dI]at aG;dsimp only at aG;rw[ahT]at aG;repeat' (first|with_reducible(first|refine cY ?_|refine cN ?_|refine ai (fun _=>?_) (fun _=>?_))|refine gA F141 ?_|refine gB ?_|with_reducible rfl)
       all_goals first
        |(have bI : fB ao x=false := by clear aG hk IH;simp_all[fB]
          rw[aG, bI, ahH]
          done)
        |(exfalso;clear aG hk IH;simp_all;done)
        |skip
       all_goals
        refine gO F141 ?_;refine J.back (IH (k+1) ⟨by omega,by rw[aG,show fB ao x=true by clear aG hk IH;simp_all[fB],afC],fun q hq=>by rw[vB]at hq;cases hq;exact hs⟩ (by omega)) ?_;exact sZ
      ·obtain⟨q,hq,dI⟩:=rC b9 hk.1;have C9:=tC (hk.2.2 q dI);rw[dI]at aG;repeat' (first|with_reducible(first|refine aD (nA hq b9 (by omega)) rfl ?_|refine aq (ME q.set x.set C9 cI) ?_|refine ax (ME q.set x.set C9 cI) ?_|refine cY ?_|refine cN ?_|refine ai (fun _=>?_) (fun _=>?_))|refine gA F141 ?_|refine gB ?_|with_reducible rfl)
       all_goals first
        |(have bI : (fB ao x && ia q x)=false := by clear aG hk IH;simp_all[fB, ia]
          rw[aG, bI, ahH]
          done)
        |(exfalso;clear aG hk IH;simp_all;omega)
        |skip
       all_goals
        refine gO F141 ?_;refine J.back (IH (k+1) ⟨by omega,by rw[aG,show(fB ao x&&ia q x)=true by clear aG hk IH;simp_all[fB,ia],afC],fun q hq=>by rw[vB]at hq;cases hq;exact hs⟩ (by omega)) ?_;exact sZ
    ·have aC:l.length<=k:=by simpa using h5
     refine gO F141 ?_;rw[hk.2.1,afG aC];rfl
def qj(s:Signed)(b:Text):Bool := !(b != []&&s.set.type != 1 && !(b != []&&s.set.name==b)) && !((b != []&&s.set.name==b)&&s.set.type != 1&&s.set.type != 2&&s.set.type != 6&&s.set.type != 8) && !(s.set.type==6 && !(b != []&&s.set.name==b))
def Aq(z:bc):Bool:=(z.ae.zip (jk z)).all fun p=>qj p.1 p.2
theorem MU(z:bc)(hl:z.ae.length<=1000000)(hn:∀ s∈z.ae,s.set.name.length<=1000):ar E 144 [z.enc] (· = .bool (Aq z)):=by
 have iy:=tz z;unfold Aq;refine eP F144 ?_
 with_reducible refine aq (MQ z hl hn) ?_
 refine gO F144 ?_;generalize jk z=B at *;obtain⟨ao,l⟩:=z;simp only at *;refine J.loop (κ:=Nat) ([2,4,5,6]++rg 9 69) (fun k=>[(4,.d (.int .i64 k))]) (fun _=>[]) (fun k=>k<=l.length/\((l.zip B).take k).all (fun p=>qj p.1 p.2)=true) (fun k=>l.length-k) 0 ⟨afv _,rfl⟩ ?_ ?_
 ·exact sZ
 ·intro k hk IH;refine J.head ag F144 2000 ?_;(conv=>whnf);refine ai (fun h5=>?_) (fun h5=>?_)
  ·have ah:k<l.length:=by simpa using h5
   obtain⟨x,hx⟩:=aH ah;obtain⟨b,hb⟩:=aH (l:=B) (k:=k) (by omega);have hz:=xS hx hb;refine gO F144 ?_;refine aD (aO hx) rfl ?_;refine gO F144 ?_;refine dU ?_;repeat' (first|with_reducible(first|refine aD (aO hb) rfl ?_|refine cY ?_|refine cN ?_|refine ai (fun _=>?_) (fun _=>?_))|refine gA F144 ?_|refine gB ?_|with_reducible rfl)
   all_goals first
    |(rw[di hz (by clear hz hb hk IH;rcases b with _|⟨c,b⟩<;>simp_all[qj])];done)
    |(exfalso;clear hz hb hk IH;rcases b with _|⟨c,b⟩<;>simp_all;done)
    |skip
   all_goals
    refine gO F144 ?_;refine J.back (IH (k+1) ⟨by omega,dv hk.2 hz (by clear hz hb hk IH;rcases b with _|⟨c,b⟩<;>simp_all[qj])⟩ (by omega)) ?_;exact sZ
  ·have aC:l.length<=k:=by simpa using h5
   refine gO F144 ?_;rw[lY hk.2 (by simp;omega)]
def vC(ao:Text)(s:Signed)(o:Bool):Bool:=jS s.sigs ao && !(!o&&decide ((s.sigs.length:Int)>0))
def C'(z:bc):Bool:=(z.ae.zip (rG z)).all fun p=>vC z.ao p.1 p.2
theorem MV(z:bc)(hl:z.ae.length<=1000000)(hn:∀ s∈z.ae,s.set.name.length<=1000):ar E 145 [z.enc] (· = .bool (C' z)):=by
 have Hi:=Hh z;unfold C';refine eP F145 ?_
 with_reducible refine aq (VP z hl hn) ?_
 refine gO F145 ?_;generalize rG z=O at *;obtain⟨ao,l⟩:=z;simp only at *;refine J.loop (κ:=Nat) ([2,4]++rg 7 34) (fun k=>[(4,.d (.int .i64 k))]) (fun _=>[]) (fun k=>k<=l.length/\((l.zip O).take k).all (fun p=>vC ao p.1 p.2)=true) (fun k=>l.length-k) 0 ⟨afv _,rfl⟩ ?_ ?_
 ·exact sZ
 ·intro k hk IH;refine J.head ag F145 2000 ?_;(conv=>whnf);refine ai (fun h5=>?_) (fun h5=>?_)
  ·have ah:k<l.length:=by simpa using h5
   obtain⟨x,hx⟩:=aH ah;obtain⟨b,hb⟩:=aH (l:=O) (k:=k) (by omega);have hz:=xS hx hb;refine gO F145 ?_;refine dU ?_;repeat' (first|with_reducible(first|refine aD (aO hx) rfl ?_|refine aD (aO hb) rfl ?_|refine aq (Ha _ _) ?_|refine ax (Ha _ _) ?_|refine cY ?_|refine cN ?_|refine ai (fun _=>?_) (fun _=>?_))|refine gA F145 ?_|refine gB ?_|with_reducible rfl)
   all_goals first
    |(rw[di hz (by clear hz hb hk IH;simp_all[vC])];done)
    |(exfalso;clear hz hb hk IH;simp_all;done)
    |skip
   all_goals
    refine gO F145 ?_;refine J.back (IH (k+1) ⟨by omega,dv hk.2 hz (by clear hz hb hk IH;simp_all[vC])⟩ (by omega)) ?_;exact sZ
  ·have aC:l.length<=k:=by simpa using h5
   refine gO F145 ?_;rw[lY hk.2 (by simp;omega)]
def eu(z:bc):Bool:=oC z&&(rD z&&(mM [] none z.ae&&(Aq z&&C' z)))
theorem Ar{α:Type}{ok:α->Bool}{rel:α->α->Bool}:∀ {p:Option α} {l:List α},chain ok rel p l=true->∀ x∈l,ok x=true
 |_,[],_,x,hx=>by simp at hx
 |p,y::l,h,x,hx=>by
  simp only[chain,aft]at h;rcases afu.1 hx with rfl|hx
  ·exact h.1.1
  ·exact Ar h.2 x hx
theorem xT{z:bc}(h:oC z=true):z.ae.length<=20000/\(∀ s∈z.ae,fB z.ao s=true)/\Nm.valid z.ao=true:=by
 simp only[oC,aft]at h;refine⟨by have:=h.1.2;simp at this;omega,Ar h.2,h.1.1.1⟩
theorem VQ{ao:Text}{s:Signed}(h:fB ao s=true):s.set.name.length<=60:=by
 simp only[fB,aft]at h;exact dV (tC h.1)
theorem Hj(z:bc)(hf:z.Fits):ar E 75 [z.enc] (· = .bool (eu z)):=by
 unfold eu;cases h1:oC z
 ·have bZ:=MT z hf;rw[h1]at bZ;refine eP Tryz.func75 ?_;repeat' (first|with_reducible(first|refine aq (bZ) ?_|refine ax (bZ) ?_|refine cY ?_|refine cN ?_|refine ai (fun _=>?_) (fun _=>?_))|refine gA Tryz.func75 ?_|refine gB ?_|with_reducible rfl)
  all_goals simp_all
 ·obtain⟨g1,g2,-⟩:=xT h1;have gl:z.ae.length<=1000000:=by omega
  have gn:∀ s∈z.ae,s.set.name.length<=1000:=fun s hs=>by have:=VQ (g2 s hs);omega
  have bZ:=MT z hf;rw[h1]at bZ;refine eP Tryz.func75 ?_;repeat' (first|with_reducible(first|refine aq (bZ) ?_|refine ax (bZ) ?_|refine aq (MM z (by omega)) ?_|refine ax (MM z (by omega)) ?_|refine aq (MN z (by omega)) ?_|refine ax (MN z (by omega)) ?_|refine aq (MU z gl gn) ?_|refine ax (MU z gl gn) ?_|refine aq (MV z gl gn) ?_|refine ax (MV z gl gn) ?_|refine cY ?_|refine cN ?_|refine ai (fun _=>?_) (fun _=>?_))|refine gA Tryz.func75 ?_|refine gB ?_|with_reducible rfl)
  all_goals simp_all
theorem M0(t:Int)(ao:Bool):ar E 245 [.int .i64 t,.bool ao] (· = .bool (vz t ao)):=by
 refine eP Tryz.func245 ?_;repeat' (first|with_reducible(first|refine cY ?_|refine cN ?_|refine ai (fun _=>?_) (fun _=>?_))|refine gA Tryz.func245 ?_|refine gB ?_|with_reducible rfl)
 all_goals (cases ao<;>simp_all[vz])
theorem M3(l:List c9)(ao:Text):ar E 246 [pY l,.str ao] (· = .bool (jS l ao)):=by
 unfold jS;have hg:∃ g0,g0=l.headD Al:=⟨_,rfl⟩;obtain⟨g0,hg⟩:=hg;rw[<- hg];refine eP F246 ?_;refine ai (fun h1=>?_) (fun h1=>?_)
 ·refine gO F246 ?_;simp only[aff]at h1;rw[decide_eq_false (by simp at h1;omega),ahH]
 ·have h6:l.length<=6:=by simp at h1;omega
  rw[decide_eq_true (by omega),afC];refine gO F246 ?_;refine J.loop (κ:=Nat) ([4,5,6]++rg 12 76) (fun k=>[(12,.d (.int .i64 k))]) (fun _=>[]) (fun k=>k<=l.length/\chain (dC ao g0) fY none l=chain (dC ao g0) fY (bN l k) (l.drop k)) (fun k=>l.length-k) 0 ⟨afv _,rfl⟩ ?_ ?_
  ·exact sZ
  ·intro k hk IH;refine J.head ag F246 2000 ?_;(conv=>whnf);refine ai (fun h5=>?_) (fun h5=>?_)
   ·have ah:k<l.length:=by simpa using h5
    obtain⟨x,hx⟩:=aH ah;have h0:=G' ah;rw[<- hg]at h0;have aG:=vy (ok:=dC ao g0) (rel:=fY) hx;rw[<- hk.2]at aG;rcases aiy k with b9|b9
    ·have dI:bN l k=none:=by simp[bN,b9]
     rw[dI]at aG;dsimp only at aG;rw[ahT]at aG;have Db:x=g0:=by subst b9;rw[hx]at h0;exact Option.some.inj h0
     refine gO F246 ?_;repeat' (first|with_reducible(first|refine aD (aO hx) rfl ?_|refine cY ?_|refine cN ?_|refine ai (fun _=>?_) (fun _=>?_))|refine gA F246 ?_|refine gB ?_|with_reducible rfl)
     all_goals first
      |(have bI : dC ao g0 x=false := by clear aG hk IH hg;simp_all[dC]<;>(intros;omega)
        rw[aG, bI, ahH]
        done)
      |skip
     refine gO F246 ?_;refine dU ?_;repeat' (first|with_reducible(first|refine aD (aO hx) rfl ?_|refine aD (tg h0) rfl ?_|refine cY ?_|refine cN ?_|refine ai (fun _=>?_) (fun _=>?_))|refine gA F246 ?_|refine gB ?_|with_reducible rfl)
     all_goals first
      |(exfalso;clear aG hk IH hg;simp_all;done)
      |skip
     all_goals
      refine gO F246 ?_;refine J.back (IH (k+1) ⟨by omega,by rw[aG,show dC ao g0 x=true by clear aG hk IH hg;simp_all[dC]<;>omega,afC]⟩ (by omega)) ?_;exact sZ
    ·obtain⟨q,hq,dI⟩:=rC b9 hk.1;rw[dI]at aG;refine gO F246 ?_;repeat' (first|with_reducible(first|refine aD (aO hx) rfl ?_|refine cY ?_|refine cN ?_|refine ai (fun _=>?_) (fun _=>?_))|refine gA F246 ?_|refine gB ?_|with_reducible rfl)
     all_goals first
      |(have bI : dC ao g0 x=false := by clear aG hk IH hg;simp_all[dC]<;>(intros;omega)
        rw[aG, bI, ahH, ahH]
        done)
      |skip
     refine gO F246 ?_;refine dU ?_;repeat' (first|with_reducible(first|refine aD (aO hx) rfl ?_|refine aD (tg h0) rfl ?_|refine aD (nA hq b9 (by omega)) rfl ?_|refine cY ?_|refine cN ?_|refine ai (fun _=>?_) (fun _=>?_))|refine gA F246 ?_|refine gB ?_|with_reducible rfl)
     all_goals first
      |(have bI : (dC ao g0 x && fY q x)=false := by clear aG hk IH hg;simp_all[dC, fY]<;>(intros;omega)
        rw[aG, bI, ahH]
        done)
      |(exfalso;clear aG hk IH hg;simp_all;omega)
      |skip
     all_goals
      refine gO F246 ?_;refine J.back (IH (k+1) ⟨by omega,by rw[aG,show(dC ao g0 x&&fY q x)=true by clear aG hk IH hg;simp_all[dC,fY]<;>omega,afC]⟩ (by omega)) ?_;exact sZ
   ·have aC:l.length<=k:=by simpa using h5
    refine gO F246 ?_;rw[hk.2,afG aC];rfl
@[reducible] def Ax (z : bc) (b : List Text) : DV := .agg [.str z.ao, zZ z.ae, .sl (b.map .str)]
theorem V2(z:bc)(B:List Text)(hB:B.length=z.ae.length)(hl:z.ae.length<=1000000):ar E 172 [Ax z B] (· = .bool ((z.ae.zip B).all fun p=>qj p.1 p.2)):=by
 obtain⟨ao,l⟩:=z;simp only at *;refine eP Tryz.func172 ?_;refine J.loop (κ:=Nat) (rg 2 4++rg 11 39) (fun k=>[(11,.d (.int .i64 k))]) (fun _=>[]) (fun k=>k<=l.length/\((l.zip B).take k).all (fun p=>qj p.1 p.2)=true) (fun k=>l.length-k) 0 ⟨afv _,rfl⟩ ?_ ?_
 ·exact sZ
 ·intro k hk IH;refine J.head ag Tryz.func172 2000 ?_;(conv=>whnf);refine ai (fun h5=>?_) (fun h5=>?_)
  ·have ah:k<l.length:=by simpa using h5
   obtain⟨x,hx⟩:=aH ah;obtain⟨b,hb⟩:=aH (l:=B) (k:=k) (by omega);have hz:=xS hx hb;refine gO Tryz.func172 ?_;repeat' (first|with_reducible(first|refine aD (aO hx) rfl ?_|refine aD (aO hb) rfl ?_|refine cY ?_|refine cN ?_|refine ai (fun _=>?_) (fun _=>?_))|refine gA Tryz.func172 ?_|refine gB ?_|with_reducible rfl)
   all_goals first
    |(have bI : qj x b=false := by clear hz hb hk IH hx;obtain⟨⟨nm, ty, lf, dt⟩, sg⟩ := x;rcases b with _|⟨c, b⟩<;>simp_all[qj]<;>first|(rintro rfl;simp_all;done)|(intro h;exact absurd h.symm (by assumption))|(subst_vars;simp_all;done)|(intros;simp_all;done)
      rw[di hz bI]
      done)
    |(exfalso;clear hz hb hk IH;rcases b with _|⟨c,b⟩<;>simp_all;done)
    |skip
   all_goals
    refine gO Tryz.func172 ?_;refine J.back (IH (k+1) ⟨by omega,dv hk.2 hz (by clear hz hb hk IH hx;obtain⟨⟨nm,ty,lf,dt⟩,sg⟩:=x;rcases b with _|⟨c,b⟩<;>simp_all[qj]<;>first|(rintro rfl;simp_all;done)|(intro h;exact absurd h.symm (by assumption))|(subst_vars;simp_all;done)|(intros;simp_all;done))⟩ (by omega)) ?_;exact sZ
  ·have aC:l.length<=k:=by simpa using h5
   refine gO Tryz.func172 ?_;rw[lY hk.2 (by simp;omega)]
def tD(s:Signed)(b:Text):Bool := !(!rF s b&&decide ((s.sigs.length:Int)>0))
theorem V3(z:bc)(B:List Text)(hB:B.length=z.ae.length)(hl:z.ae.length<=1000000):ar E 173 [Ax z B] (· = .bool ((z.ae.zip B).all fun p=>tD p.1 p.2)):=by
 obtain⟨ao,l⟩:=z;simp only at *;refine eP Tryz.func173 ?_;refine J.loop (κ:=Nat) (rg 2 4++rg 11 31) (fun k=>[(11,.d (.int .i64 k))]) (fun _=>[]) (fun k=>k<=l.length/\((l.zip B).take k).all (fun p=>tD p.1 p.2)=true) (fun k=>l.length-k) 0 ⟨afv _,rfl⟩ ?_ ?_
 ·exact sZ
 ·intro k hk IH;refine J.head ag Tryz.func173 2000 ?_;(conv=>whnf);refine ai (fun h5=>?_) (fun h5=>?_)
  ·have ah:k<l.length:=by simpa using h5
   obtain⟨x,hx⟩:=aH ah;obtain⟨b,hb⟩:=aH (l:=B) (k:=k) (by omega);have hz:=xS hx hb;refine gO Tryz.func173 ?_;repeat' (first|with_reducible(first|refine aD (aO hx) rfl ?_|refine aD (aO hb) rfl ?_|refine cY ?_|refine cN ?_|refine ai (fun _=>?_) (fun _=>?_))|refine gA Tryz.func173 ?_|refine gB ?_|with_reducible rfl)
   all_goals first
    |(rw[di hz (by clear hz hb hk IH;rcases b with _|⟨c,b⟩<;>simp_all[tD,rF])];done)
    |(exfalso;clear hz hb hk IH;rcases b with _|⟨c,b⟩<;>simp_all;done)
    |skip
   all_goals
    refine gO Tryz.func173 ?_;refine J.back (IH (k+1) ⟨by omega,dv hk.2 hz (by clear hz hb hk IH;rcases b with _|⟨c,b⟩<;>simp_all[tD,rF])⟩ (by omega)) ?_;exact sZ
  ·have aC:l.length<=k:=by simpa using h5
   refine gO Tryz.func173 ?_;rw[lY hk.2 (by simp;omega)]
theorem V4(z:bc)(B:List Text)(hl:z.ae.length<=1000000):ar E 174 [Ax z B] (· = .bool (z.ae.all fun s=>jS s.sigs z.ao)):=by
 obtain⟨ao,l⟩:=z;simp only at *;refine eP Tryz.func174 ?_;refine J.loop (κ:=Nat) ([2,4]++rg 10 13) (fun k=>[(10,.d (.int .i64 k))]) (fun _=>[]) (fun k=>k<=l.length/\(l.take k).all (fun s=>jS s.sigs ao)=true) (fun k=>l.length-k) 0 ⟨afv _,rfl⟩ ?_ ?_
 ·exact sZ
 ·intro k hk IH;refine J.head ag Tryz.func174 2000 ?_;(conv=>whnf);refine ai (fun h5=>?_) (fun h5=>?_)
  ·have ah:k<l.length:=by simpa using h5
   obtain⟨x,hx⟩:=aH ah;refine gO Tryz.func174 ?_;repeat' (first|with_reducible(first|refine aD (aO hx) rfl ?_|refine aq (M3 _ _) ?_|refine ax (M3 _ _) ?_|refine cY ?_|refine cN ?_|refine ai (fun _=>?_) (fun _=>?_))|refine gA Tryz.func174 ?_|refine gB ?_|with_reducible rfl)
   all_goals first
    |(rw[di hx (by simp_all)];done)
    |skip
   all_goals
    refine gO Tryz.func174 ?_;refine J.back (IH (k+1) ⟨by omega,dv hk.2 hx (by simp_all)⟩ (by omega)) ?_;exact sZ
  ·have aC:l.length<=k:=by simpa using h5
   refine gO Tryz.func174 ?_;rw[lY hk.2 aC]
def tE(p:Option Text)(s:Signed)(t:Option Signed):Bool:=s.set.type != 3||(p != some s.set.name&&(match t with|none=>true|some t => !(t.set.name==s.set.name&&t.set.type != 8)))
def kD:Option Text->List Signed->Bool
 |_,[]=>true
 |p,s::l=>tE p s l.head? && kD (some s.set.name) l
theorem V5{l:List Signed}{k:Nat}{x:Signed}(hx:l[k]?=some x):kD (bN (l.map (·.set.name)) k) (l.drop k)=(tE (bN (l.map (·.set.name)) k) x l[k+1]? && kD (bN (l.map (·.set.name)) (k+1)) (l.drop (k+1))):=by
 have hk:=aX hx;rw[afH hk];have e1:l[k]=x:=by simpa [hk]using hx
 have e2:bN (l.map (·.set.name)) (k+1)=some x.set.name:=by simp[bN,hx]
 have e3:(l.drop (k+1)).head?=l[k+1]? := by rw[List.head?_drop]
 rw[e1,e2,kD,e3]
theorem V7(z:bc)(B:List Text)(hl:z.ae.length<=1000000):ar E 171 [Ax z B] (· = .bool (kD none z.ae)):=by
 obtain⟨ao,l⟩:=z;simp only at *;refine eP F171 ?_;refine J.loop (κ:=Nat) ([2,3,4]++rg 10 65) (fun k=>[(10,.d (.int .i64 k))]) (fun _=>[]) (fun k=>k<=l.length/\kD none l=kD (bN (l.map (·.set.name)) k) (l.drop k)) (fun k=>l.length-k) 0 ⟨afv _,rfl⟩ ?_ ?_
 ·exact sZ
 ·intro k hk IH;refine J.head ag F171 2000 ?_;(conv=>whnf);refine ai (fun h5=>?_) (fun h5=>?_)
  ·have ah:k<l.length:=by simpa using h5
   obtain⟨x,hx⟩:=aH ah;have aG:=V5 hx;rw[<- hk.2]at aG;have hw:IntKind.i64.wrap ((k:Int)+1)=((k+1:Nat):Int):=by rw[wrap64 (by omega) (by omega)];omega
   refine gO F171 ?_;refine aD (aO hx) rfl ?_;refine gO F171 ?_;refine ai (fun h6=>?_) (fun h6=>?_)
   ·refine gO F171 ?_;refine J.back (IH (k+1) ⟨by omega,by rw[aG];simp only[tE,h6,Bool.true_or,afC]⟩ (by omega)) ?_;exact sZ
   ·have e1:tE (bN (l.map (·.set.name)) k) x l[k+1]?=(bN (l.map (·.set.name)) k != some x.set.name&&(match l[k+1]? with|none=>true|some t => !(t.set.name==x.set.name&&t.set.type != 8))):=by simp only[tE,h6,Bool.false_or]
    rw[e1]at aG;clear e1;rcases aiy k with b9|b9
    ·have dI:bN (l.map (·.set.name)) k=none:=by simp[bN,b9]
     rw[dI]at aG;refine gO F171 ?_;refine dU ?_;refine aU (by simp;omega) ?_;refine gD ?_;refine gO F171 ?_;refine aR ?_;refine gO F171 ?_;refine dU ?_;by_cases dm:k+1<l.length
     ·obtain⟨t,ht⟩:=aH dm;rw[ht]at aG;refine aY (by rw[hw];simp;omega) ?_;refine gD ?_;repeat' (first|with_reducible(first|refine aD (at_next ht (by omega)) rfl ?_|refine cY ?_|refine cN ?_|refine ai (fun _=>?_) (fun _=>?_))|refine gA F171 ?_|refine gB ?_|with_reducible rfl)
      all_goals first
       |(rw[aG];clear aG hk IH dI;simp_all;done)
       |skip
      all_goals
       refine gO F171 ?_;refine J.back (IH (k+1) ⟨by omega,by rw[aG];clear aG hk IH dI;simp_all⟩ (by omega)) ?_;exact sZ
     ·have ht:l[k+1]?=none:=adW (by omega);rw[ht]at aG;refine aU (by rw[hw];simp;omega) ?_;refine gD ?_;repeat' (first|with_reducible(first|refine cY ?_|refine cN ?_|refine ai (fun _=>?_) (fun _=>?_))|refine gA F171 ?_|refine gB ?_|with_reducible rfl)
      refine gO F171 ?_;refine J.back (IH (k+1) ⟨by omega,by rw[aG];clear aG hk IH dI;simp_all⟩ (by omega)) ?_;exact sZ
    ·obtain⟨q,hq,-⟩:=rC b9 hk.1;have dI:bN (l.map (·.set.name)) k=some q.set.name:=by simp[bN,hq];omega
     rw[dI]at aG;refine gO F171 ?_;refine dU ?_;refine aY (by simp;omega) ?_;refine gD ?_;refine aD (nA hq b9 (by omega)) rfl ?_;refine gD ?_;refine gO F171 ?_;refine ai (fun h7=>?_) (fun h7=>?_)
     ·refine gO F171 ?_;rw[aG];clear aG hk IH dI;simp_all
     ·refine gO F171 ?_;refine dU ?_;by_cases dm:k+1<l.length
      ·obtain⟨t,ht⟩:=aH dm;rw[ht]at aG;refine aY (by rw[hw];simp;omega) ?_;refine gD ?_;repeat' (first|with_reducible(first|refine aD (at_next ht (by omega)) rfl ?_|refine cY ?_|refine cN ?_|refine ai (fun _=>?_) (fun _=>?_))|refine gA F171 ?_|refine gB ?_|with_reducible rfl)
       all_goals first
        |(rw[aG];clear aG hk IH dI;simp_all;done)
        |skip
       all_goals
        refine gO F171 ?_;refine J.back (IH (k+1) ⟨by omega,by rw[aG];clear aG hk IH dI;simp_all⟩ (by omega)) ?_;exact sZ
      ·have ht:l[k+1]?=none:=adW (by omega);rw[ht]at aG;refine aU (by rw[hw];simp;omega) ?_;refine gD ?_;repeat' (first|with_reducible(first|refine cY ?_|refine cN ?_|refine ai (fun _=>?_) (fun _=>?_))|refine gA F171 ?_|refine gB ?_|with_reducible rfl)
       refine gO F171 ?_;refine J.back (IH (k+1) ⟨by omega,by rw[aG];clear aG hk IH dI;simp_all⟩ (by omega)) ?_;exact sZ
  ·have aC:l.length<=k:=by simpa using h5
   refine gO F171 ?_;rw[hk.2,afG aC];rfl
theorem M4(c d:UInt8):c<d\/c=d\/d<c:=by
 rcases agn c.toNat d.toNat with h|h|h
 ·exact .inl (UInt8.lt_iff_toNat_lt.2 h)
 ·exact .inr (.inl (UInt8.toNat_inj.1 h))
 ·exact .inr (.inr (UInt8.lt_iff_toNat_lt.2 h))
theorem Hk{c d:UInt8}{a b:Text}:Op.bytesLess (c::a) (d::b)=true↔c<d\/(c=d/\Op.bytesLess a b=true):=by
 simp[Op.bytesLess]
theorem Hl:∀ {a b c:Text},Op.bytesLess a b=true->Op.bytesLess b c=true->Op.bytesLess a c=true
 |_,[],_,h,_=>by simp[Op.bytesLess]at h
 |_,_::_,[],_,h=>by simp[Op.bytesLess]at h
 |[],_::_,_::_,_,_=>by simp[Op.bytesLess]
 |x::a,y::b,z::c,h,k=>by
  rw[Hk]at h k ⊢;rcases h with h|⟨rfl,h⟩
  ·rcases k with k|⟨rfl,k⟩
   ·exact .inl (UInt8.lt_trans h k)
   ·exact .inl h
  ·rcases k with k|⟨rfl,k⟩
   ·exact .inl k
   ·exact .inr ⟨rfl,Hl h k⟩
theorem M5:∀ (a b:Text),Op.bytesLess a b=true\/a=b\/Op.bytesLess b a=true
 |[],[] => .inr (.inl rfl)
 |[],_::_ => .inl (by simp[Op.bytesLess])
 |_::_,[] => .inr (.inr (by simp[Op.bytesLess]))
 |c::a,d::b=>by
  rw[Hk,Hk];rcases M4 c d with h|rfl|h
  ·exact .inl (.inl h)
  ·rcases M5 a b with h|rfl|h
   ·exact .inl (.inr ⟨rfl,h⟩)
   ·exact .inr (.inl rfl)
   ·exact .inr (.inr (.inr ⟨rfl,h⟩))
  ·exact .inr (.inr (.inl h))
theorem Hm{a b:Text}(h:Op.bytesLess a b=true):Op.bytesLess b a=false:=by
 rw[<- ahx];intro k;have:=Hl h k;rw[lZ]at this;cases this
theorem M6{a b:Text}(h:Op.bytesLess a b=true):a≠b:=by
 rintro rfl;rw[lZ]at h;cases h
theorem M7:∀ (a b:Text),Lib.compareBytes a b=if Op.bytesLess a b then -1 else if a==b then 0 else 1
 |[],[]=>by simp[Lib.compareBytes,Op.bytesLess]
 |[],_::_=>by simp[Lib.compareBytes,Op.bytesLess]
 |_::_,[]=>by simp[Lib.compareBytes,Op.bytesLess]
 |c::a,d::b=>by
  simp only[Lib.compareBytes,Op.bytesLess];rcases M4 c d with h|rfl|h
  ·simp[h]
  ·simp[M7 a b]
  ·have h1:¬ c<d:=UInt8.not_lt.2 (UInt8.le_of_lt h);have h2:¬ c=d:=by rintro rfl;exact absurd h (by simp)
   simp[h,h1,h2]
theorem rJ(x y:Text)(l m:List Text):(Op.bytesLess x y=true/\cmpL (x::l) (y::m) = -1)\/(x=y/\cmpL (x::l) (y::m)=cmpL l m)\/(Op.bytesLess y x=true/\cmpL (x::l) (y::m)=1):=by
 rcases M5 x y with h|rfl|h
 ·exact .inl ⟨h,by simp[cmpL,h]⟩
 ·exact .inr (.inl ⟨rfl,by simp[cmpL,lZ]⟩)
 ·exact .inr (.inr ⟨h,by simp[cmpL,Hm h,(M6 h).symm]⟩)
theorem M8:∀ (l:List Text),cmpL l l=0
 |[]=>rfl
 |x::l=>by simp[cmpL,lZ,M8 l]
theorem M9:∀ {l m:List Text},cmpL l m=0->l=m
 |[],[],_=>rfl
 |[],_::_,h=>by simp[cmpL]at h
 |_::_,[],h=>by simp[cmpL]at h
 |x::l,y::m,h=>by
  rcases rJ x y l m with⟨-,e⟩|⟨rfl,e⟩|⟨-,e⟩
  ·rw[e]at h;cases h
  ·rw[e]at h;rw[M9 h]
  ·rw[e]at h;cases h
theorem M':∀ (l m:List Text),cmpL m l = - cmpL l m
 |[],[]=>rfl
 |[],_::_=>rfl
 |_::_,[]=>rfl
 |x::l,y::m=>by
  rcases rJ x y l m with⟨h,e⟩|⟨rfl,e⟩|⟨h,e⟩
  ·rw[e];simp[cmpL,Hm h,(M6 h).symm]
  ·rw[e,<- M' l m];simp[cmpL,lZ]
  ·rw[e];simp[cmpL,h]
theorem Na:∀ {a b c:List Text},cmpL a b<0->cmpL b c<0->cmpL a c<0
 |[],[],_,h,_=>by simp[cmpL]at h
 |_::_,[],_,h,_=>by simp[cmpL]at h
 |_,_::_,[],_,h=>by simp[cmpL]at h
 |[],_::_,_::_,_,_=>by simp[cmpL]
 |x::a,y::b,z::c,h,k=>by
  rcases rJ x y a b with⟨h1,e1⟩|⟨rfl,e1⟩|⟨h1,e1⟩
  ·rcases rJ y z b c with⟨h2,e2⟩|⟨rfl,e2⟩|⟨h2,e2⟩
   ·simp[cmpL,Hl h1 h2]
   ·simp[cmpL,h1]
   ·rw[e2]at k;simp at k
  ·rcases rJ x z b c with⟨h2,e2⟩|⟨rfl,e2⟩|⟨h2,e2⟩
   ·simp[cmpL,h2]
   ·rw[e1]at h;rw[e2]at k;have:=Na h k;rcases rJ x x a c with⟨h3,-⟩|⟨-,e3⟩|⟨h3,-⟩
    ·rw[lZ]at h3;cases h3
    ·rw[e3];exact this
    ·rw[lZ]at h3;cases h3
   ·rw[e2]at k;simp at k
  ·rw[e1]at h;simp at h
theorem Nb:∀ {c m n:List Text},cmpL c m<=0->cmpL m n<=0->c <+: n->c <+: m
 |[],_,_,_,_,_=>List.nil_prefix
 |_::_,[],_,h,_,_=>by simp[cmpL]at h
 |_::_,_::_,[],_,_,h=>by simp at h
 |x::c,y::m,z::n,h,k,hp=>by
  rw[aiF]at hp;obtain⟨rfl,hp⟩:=hp;rcases rJ x y c m with⟨h1,e1⟩|⟨rfl,e1⟩|⟨h1,e1⟩
  ·rcases rJ y x m n with⟨h2,e2⟩|⟨rfl,e2⟩|⟨h2,e2⟩
   ·have:=Hm h1;rw[h2]at this;cases this
   ·rw[lZ]at h1;cases h1
   ·rw[e2]at k;simp at k
  ·rcases rJ x x m n with⟨h2,-⟩|⟨-,e2⟩|⟨h2,-⟩
   ·rw[lZ]at h2;cases h2
   ·rw[aiF];rw[e1]at h;rw[e2]at k;exact⟨rfl,Nb h k hp⟩
   ·rw[lZ]at h2;cases h2
  ·rw[e1]at h;simp at h
theorem Nc:∀ {c n:List Text},c <+: n->cmpL c n<=0
 |[],[],_=>by simp[cmpL]
 |[],_::_,_=>by simp[cmpL]
 |_::_,[],h=>by simp at h
 |x::c,y::n,h=>by
  rw[aiF]at h;obtain⟨rfl,h⟩:=h;simp only[cmpL,lZ,aet,if_false,beq_self_eq_true,if_true];exact Nc h
theorem pq(a:Text):bD a a=0:=M8 _
theorem qk{a b:Text}(h:bD a b=0):a=b:=T' (List.reverse_inj.1 (M9 h))
theorem Ay(a b:Text):bD b a = - bD a b:=M' _ _
theorem Az{a b c:Text}(h:bD a b<0)(k:bD b c<0):bD a c<0:=Na h k
theorem Ae{s z:Text}:Nm.under s z=true↔(Nm.labels z).reverse <+: (Nm.labels s).reverse:=by
 simp[Nm.under,List.reverse_prefix]
theorem xY{c m n:Text}(h:bD c m<=0)(k:bD m n<=0)(hp:Nm.under n c=true):Nm.under m c=true:=Ae.2 (Nb h k (Ae.1 hp))
theorem AA{c n:Text}(h:Nm.under n c=true):bD c n<=0:=Nc (Ae.1 h)
set_option maxHeartbeats 1000000 in
open Go.RowKit in
theorem V8(a b:ByteArray)(w:World):Calls Tryz.prog 357 #[.string a,.string b] w fun e w'=>e=.returned (.int .i64 (Lib.compareBytes a.data.toList b.data.toList))/\w'=w:=by
  go_enter Tryz.func357,Tryz.ntmps357
  go_wp2
  rw[run_callFunc_extern Tryz.func361 (by kernel_rfl) (by kernel_rfl) (by kernel_rfl) (e:=Extern.BytealgCompare.compare) (by kernel_rfl),Lib.run_compareString];simp only[Result.andThen];rw[Oper.upon_value]
  go_wp2
  go_ret
  exact⟨rfl,rfl⟩
theorem V9(a b:Text):ar E 357 [.str a,.str b] (· = .int .i64 (Lib.compareBytes a b)):=by
 unfold ar;refine⟨⟨_,Tryz.func357,rfl,by decide⟩,fun aE w vs _ _ ⟨hl,hv⟩=>?_⟩;obtain⟨u,v,rfl⟩:∃ u v,vs=[u,v]:=by
  match vs,hl with
  |[u,v],_=>exact⟨u,v,rfl⟩
 have h1:=hv 0 (.str a) u rfl rfl;have h2:=hv 1 (.str b) v rfl rfl;cases h1;cases h2;refine(V8 ⟨a.toArray⟩ ⟨b.toArray⟩ w).mono fun e w' ⟨h1,h2⟩=>⟨_,_,h1,rfl,?_,h2 ▸ Ext.refl w⟩
 simpa using VD.int _ _
theorem V'(a b:Text):ar E 341 [.str a,.str b] (· = .int .i64 (Lib.compareBytes a b)):=by
 have c1:=V9 a b;refine eP Tryz.func341 ?_;refine aq (c1) ?_;refine gO Tryz.func341 ?_
 with_reducible rfl
def PS(more:Bool)(rest:Text)(R:List Text):Prop:=if more then(Nm.split rest).reverse=R else R=[]
theorem Wa(t:Text):aw E 340 [] [.d (.str t)] (fun x h=>x=.fn (.func 356) [] [.ptr 1 0,.ptr 0 0]/\h=[.cells [.d (.str t)],.cells [.d (.bool (t != [46]))]]):=by
 refine aw.run ag (fn:=Tryz.f340) Tryz.func340 (body:=Tryz.f340.body.getD .skip) rfl (by decide) 2000 rfl ?_;(conv=>whnf);exact⟨rfl,rfl⟩
theorem Wb(rest:Text):aw E 356 [.cells [.d (.bool false)],.cells [.d (.str rest)]] [.ptr 0 0,.ptr 1 0] (fun x h=>x=.aF [.d (.str []),.d (.bool false)]/\h=[.cells [.d (.bool false)],.cells [.d (.str rest)]]):=by
 refine aw.run ag (fn:=Tryz.f356) Tryz.func356 (body:=Tryz.f356.body.getD .skip) rfl (by decide) 2000 rfl ?_;(conv=>whnf);refine aY (by decide) ?_;refine gO F356 ?_;exact⟨rfl,rfl⟩
theorem Wc(rest:Text)(hl:rest.length<=60){y:Text}{R:List Text}(h:PS true rest (y::R)):aw E 356 [.cells [.d (.bool true)],.cells [.d (.str rest)]] [.ptr 0 0,.ptr 1 0] (fun x h=>x=.aF [.d (.str y),.d (.bool true)]/\∃ m r,h=[.cells [.d (.bool m)],.cells [.d (.str r)]]/\PS m r R/\r.length<=60):=by
 have c1:=CL rest (by unfold maxLen;omega);obtain⟨i,x,P,e1,e2,e3,e4,e5,e6,e7⟩:=CM rest;have hw:IntKind.i64.wrap (i+1)=i+1:=wrap64 (by omega) (by omega);rw[e1]at c1;refine aw.run ag (fn:=Tryz.f356) Tryz.func356 (body:=Tryz.f356.body.getD .skip) rfl (by decide) 2000 rfl ?_;(conv=>whnf);refine aU (by decide) ?_;refine gO F356 ?_;refine aq (c1) ?_;refine gO F356 ?_;refine aW ⟨by rw[hw];simp;omega,by rw[hw];simp;omega,by simp⟩ ?_;refine gO F356 ?_;rw[hw];simp only[afq,aeB,afr,ahj,e4];have hR:x=y/\P.reverse=R:=by
  have:(Nm.split rest).reverse=y::R:=h;rw[e5]at this
  simpa using this
 obtain⟨rfl,rfl⟩:=hR;refine ai (fun h5=>?_) (fun h5=>?_)
 ·refine gO F356 ?_;rw[e6 (of_decide_eq_true h5)];exact⟨rfl,false,rest,rfl,rfl,hl⟩
 ·have h5:0<=i:=by simpa using h5
  refine gO F356 ?_;refine aW ⟨by simp,by simp;omega,by simp;omega⟩ ?_;refine gO F356 ?_;refine⟨rfl,true,rest.take i.toNat,rfl,?_,by simp;omega⟩;rw[e7 h5];rfl
theorem Hn(a b:Text)(ha:Nm.valid a=true)(hb:Nm.valid b=true):ar E 298 [.str a,.str b] (· = .aF [.int .i64 (bD a b),.int .i64 0]):=by
 have c1:=vp a (ni (by have:=dV ha;omega));have c2:=vp b (ni (by have:=dV hb;omega));rw[ha]at c1;rw[hb]at c2;have th:=dV ha;have tn:=dV hb;refine eP F298 ?_;refine aq (c1) ?_;refine gO F298 ?_;refine aR ?_;refine gO F298 ?_;refine aq (c2) ?_;refine gO F298 ?_;refine aR ?_;refine gO F298 ?_;refine ai (fun h3=>?_) (fun h3=>?_)
 ·obtain rfl:a=b:=by simpa using h3
  refine gO F298 ?_;rw[pq]
 have aJ:a≠b:=by simpa using h3
 refine gO F298 ?_;refine xn (Wa b) rfl ?_;refine gO F298 ?_;refine J.rangeFunc (aV rfl) Tryz.func233 rfl (by decide) rfl (fun ll d tt=>?_);refine gO F233 ?_;refine ai (fun h4=>?_) (fun h4=>?_)
 ·obtain rfl:a=[46]:=by simpa using h4
  refine gO F233 ?_;refine J.ky ag F233 rfl rfl rfl rfl (fun e=>nomatch e) ?_;(conv=>whnf);refine gO F298 ?_;refine J.lW ag F298 rfl rfl rfl rfl rfl ?_;have:bD [46] b = -1:=by
   have h0:=fun h=>aJ (qk (a:=[46]) (b:=b) h);unfold bD at h0 ⊢;rw[show(Nm.labels [46]).reverse=[]from rfl]at h0 ⊢;cases h5:(Nm.labels b).reverse with
   |nil=>rw[h5]at h0;exact absurd rfl h0
   |cons z R=>rfl
  rw[this];rfl
 have hr:a≠[46]:=by simpa using h4
 refine gO F233 ?_;refine J.loop (κ:=Text × Bool × Text × List Text) [4,5,9,10,11,12,13,14,15,16,17,18,19,20,21,22,23,24] (fun x=>[(4,.d (.str x.1))]) (fun x=>[(2,.cells [.d (.str x.2.2.1)]),(3,.cells [.d (.bool x.2.1)])]) (fun x=>x.1.length<=60/\x.2.2.1.length<=60/\PS x.2.1 x.2.2.1 x.2.2.2/\bD a b=cmpL (Nm.split x.1).reverse x.2.2.2) (fun x=>x.1.length) (a,b != [46],b,(Nm.labels b).reverse) ⟨th,tn,by by_cases h:b=[46]<;>simp[PS,Nm.labels,h],by simp[bD,Nm.labels,hr]⟩ ?_ ?_
 ·exact sZ
 rintro⟨rest,more,rb,R⟩ ⟨k1,k2,k3,k4⟩ IH;simp only at k1 k2 k3 k4;obtain⟨i,x,P,e1,e2,e3,e4,e5,e6,e7⟩:=CM rest;have c1:=CL rest (by unfold maxLen;omega);have hw:IntKind.i64.wrap (i+1)=i+1:=wrap64 (by omega) (by omega);rw[e5,List.reverse_append,List.reverse_singleton,List.singleton_append]at k4;rw[e1]at c1;refine J.head ag F233 2000 ?_;(conv=>whnf);refine aq (c1) ?_;refine gO F233 ?_;refine aW ⟨by rw[hw];simp;omega,by rw[hw];simp;omega,by simp⟩ ?_;refine gO F233 ?_;rw[hw];simp only[afq,aeB,afr,ahj,e4];refine J.yield 0 rfl rfl rfl (aV rfl) (lT (aV rfl)) rfl ?_;(conv=>whnf);refine gO F298 ?_;refine J.begin 0 rfl rfl rfl ?_;(conv=>whnf);refine gO F298 ?_;cases R with
 |nil =>
  obtain rfl:more=false:=by
   cases more
   ·rfl
   ·exact absurd (List.reverse_eq_nil_iff.1 k3) (Nm.oy rb)
  with_reducible refine aS (Wb rb) ?_
  refine gO F298 ?_;refine a8 ?_;refine gO F298 ?_;refine J.CI 0 rfl rfl rfl ?_;(conv=>whnf);refine gO F233 ?_;refine aY (by decide) ?_;refine gO F233 ?_;refine a8 ?_;refine gO F233 ?_;refine J.ky ag F233 rfl rfl rfl rfl (fun e=>nomatch e) ?_;(conv=>whnf);refine gO F298 ?_;refine J.lW ag F298 rfl rfl rfl rfl rfl ?_;rw[k4];rfl
 |cons y R =>
  obtain rfl:more=true:=by
   cases more
   ·exact absurd k3 (by simp[PS])
   ·rfl
  with_reducible refine jK (Wc rb k2 k3) ?_
  rintro r h1 ⟨rfl,m,rr,rfl,q1,q2⟩;have c3:=V' x y;rw[M7]at c3;refine gO F298 ?_;refine aR ?_;refine gO F298 ?_;refine aq (c3) ?_;refine gO F298 ?_;by_cases jO:x=y
  ·subst jO;rw[lZ];refine aU (by simp) ?_;refine gO F298 ?_;refine J.pb 0 rfl rfl rfl ?_;(conv=>whnf);refine gO F233 ?_;refine aU (by decide) ?_;refine gO F233 ?_;have k5:bD a b=cmpL P.reverse R:=by rw[k4];simp[cmpL,lZ]
   refine ai (fun h5=>?_) (fun h5=>?_)
   ·refine gO F233 ?_;refine J.ky ag F233 rfl rfl rfl rfl (fun e=>nomatch e) ?_;(conv=>whnf);refine gO F298 ?_;refine J.lW ag F298 rfl rfl rfl rfl rfl ?_;rw[e6 (by simpa using h5)]at k5;have:bD a b = -1:=by
     cases R with
     |nil=>exact absurd (qk k5) aJ
     |cons z R=>exact k5
    rw[this];rfl
   ·have h5:0<=i:=by simpa using h5
    refine gO F233 ?_;refine aW ⟨by simp,by simp;omega,by simp;omega⟩ ?_;refine gO F233 ?_;simp only[afq,aeB,Int.toNat_zero,List.drop_zero];refine J.back (IH (rest.take i.toNat,m,rr,R) ⟨by simp;omega,q2,q1,by simp only;rw[k5,e7 h5]⟩ (by simp;omega)) ?_;exact sZ
  ·refine aY (by split<;>simp[jO]) ?_;refine gO F298 ?_;refine J.CI 0 rfl rfl rfl ?_;(conv=>whnf);refine gO F233 ?_;refine aY (by decide) ?_;refine gO F233 ?_;refine a8 ?_;refine gO F233 ?_;refine J.ky ag F233 rfl rfl rfl rfl (fun e=>nomatch e) ?_;(conv=>whnf);refine gO F298 ?_;refine J.lW ag F298 rfl rfl rfl rfl rfl ?_;have:bD a b=if Op.bytesLess x y=true then -1 else if (x==y)=true then 0 else 1:=by
    rw[k4,cmpL];split
    ·rfl
    ·simp[jO]
   rw[this];rfl
def oE(a:Text)(s:Int)(b:Text)(t:Int):Int:=if a≠b then bD a b else jP s t
theorem Nd(a:Text)(s:Int)(b:Text)(t:Int)(ha:Nm.valid a=true)(hb:Nm.valid b=true):ar E 244 [.str a,.int .i64 s,.str b,.int .i64 t] (· = .int .i64 (oE a s b t)):=by
 refine eP Tryz.func244 ?_;repeat' (first|with_reducible(first|refine aq (Hn _ _ ha hb) ?_|refine ax (Hn _ _ ha hb) ?_|refine aq (CN _ _) ?_|refine ax (CN _ _) ?_|refine cY ?_|refine cN ?_|refine ai (fun _=>?_) (fun _=>?_))|refine gA Tryz.func244 ?_|refine gB ?_|with_reducible rfl)
 all_goals simp_all[oE]
theorem xZ(a b:cM):oE a.name a.type b.name b.type=oB a b:=by
 unfold oE oB;by_cases h:a.name=b.name
 ·simp[h,pq]
 ·have:bD a.name b.name≠0:=fun e=>h (qk e);simp[h,this]
def vE(s:Signed)(q:bC):Int:=oE s.set.name s.set.type q.name q.type
theorem Wd{a b:Int}:jP a b=0↔a=b:=by
 unfold jP;split
 ·omega
 ·split<;>omega
theorem Dc{s:Signed}{q:bC}:(vE s q==0)=da q s:=by
 rw[Bool.eq_iff_iff,beq_iff_eq];unfold vE oE da;by_cases h:s.set.name=q.name
 ·simp[h,Wd]
 ·have:bD s.set.name q.name≠0:=fun e=>h (qk e);simp[h,this]
def gy(l:List Signed):Prop:=∀ (i j:Nat) (x y:Signed),i<j->l[i]?=some x->l[j]?=some y->oB x.set y.set<0
theorem We{a b c:Int}(h:jP a b<0)(k:jP b c<0):jP a c<0:=by
 unfold jP at *;repeat' split at h
 all_goals first|omega|skip
 repeat' split at k
 all_goals first|omega|skip
 repeat' split
 all_goals omega
theorem Ho{a b c:Text}{s t u:Int}(h:oE a s b t<0)(k:oE b t c u<0):oE a s c u<0:=by
 unfold oE at *;by_cases e1:a=b
 ·subst e1;simp only[ne_eq,not_true_eq_false,if_false]at h;by_cases e2:a=c
  ·subst e2;simp only[ne_eq,not_true_eq_false,if_false]at k ⊢;exact We h k
  ·simp only[ne_eq,e2,not_false_eq_true,if_true]at k ⊢;exact k
 ·simp only[ne_eq,e1,not_false_eq_true,if_true]at h;by_cases e2:b=c
  ·subst e2;simp only[ne_eq,e1,not_false_eq_true,if_true];exact h
  ·simp only[ne_eq,e2,not_false_eq_true,if_true]at k;have:=Az h k;have e3:a≠c:=by
    rintro rfl;rw[pq]at this;omega
   simp only[ne_eq,e3,not_false_eq_true,if_true];exact this
theorem Nf(s:Signed)(q:bC)(hs:Nm.valid s.set.name=true)(hq:Nm.valid q.name=true):ar E 290 [s.enc,q.enc] (· = .int .i64 (vE s q)):=by
 refine eP Tryz.func290 ?_
 with_reducible refine aq (Nd _ _ _ _ hs hq) ?_
 refine gO Tryz.func290 ?_;rfl
theorem Ng{i j:Nat}(h:i+j<=4294967296):IntKind.i64.wrap (lJ .shr .u64 (IntKind.u64.wrap (IntKind.i64.wrap ((i:Int)+j))) (ahu 1))=(((i+j) / 2:Nat):Int):=by
 rw[wrap64 (n:=(i:Int)+j) (by omega) (by omega)];have e1:IntKind.u64.wrap ((i:Int)+j)=(i:Int)+j:=by
  simp[IntKind.wrap,IntKind.signed,IntKind.bits];omega
 rw[e1];have e2:lJ .shr .u64 ((i:Int)+j) (ahu 1)=(((i+j) / 2:Nat):Int):=by
  show((i:Int)+j).fdiv (2 ^ 1)=_;rw[Int.fdiv_eq_ediv_of_nonneg _ (by decide)];omega
 rw[e2,wrap64 (by omega) (by omega)]
theorem Wf(l:List Signed)(q:bC)(hl:l.length<=1000000)(hv:∀ s∈l,Nm.valid s.set.name=true)(hq:Nm.valid q.name=true)(hs:gy l) :
  aw E 289 [] [.d (zZ l),.d q.enc,.fn (.func 290) [] []] (fun a b=>(∃ i:Nat,i<=l.length/\a=.aF [.d (.int .i64 i),.d (.bool (l.any (da q)))]/\∀ j x,l[j]?=some x->da q x=true->j=i)/\b=[.cells [.d (.str q.name),.d (.int .i64 q.type)]]):=by
 refine aw.run ag (fn:=Tryz.f289) Tryz.func289 (body:=Tryz.f289.body.getD .skip) rfl (by decide) 2000 rfl ?_;(conv=>whnf);refine J.loop (κ:=Nat × Nat) [9,10,11,15,16,17,18,19,20,21,22,23,24,25,26,27,28,29,30,31,32,33,34] (fun k=>[(9,.d (.int .i64 k.1)),(10,.d (.int .i64 k.2))]) (fun _=>[]) (fun k=>k.1<=k.2/\k.2<=l.length/\(∀ m x,m<k.1->l[m]?=some x->vE x q<0)/\(∀ m x,k.2<=m->l[m]?=some x->¬ vE x q<0)) (fun k=>k.2-k.1) (0,l.length) ⟨afv _,Nat.le_refl _,fun m x h=>by omega,fun m x h hx=>by have:=aX hx;omega⟩ ?_ ?_
 ·(conv=>whnf);repeat (first|exact trivial|(refine And.intro (by first|with_reducible rfl|exact congrArg (DV.int .i64) (by omega)|exact congrArg (DV.int .i64) (by simp)|exact congrArg (DV.int .i64) (wrap64 (by omega) (by omega))|exact congrArg (DV.int .i64) ((wrap64 (by omega) (by omega)).trans (by omega))) ?_;conv=>whnf))
 ·rintro⟨i,j⟩ hk IH;obtain⟨k1,k2,k3,k4⟩:=hk;simp only at k1 k2 k3 k4;refine J.head ag F289 2000 ?_;(conv=>whnf);refine ai (fun h5=>?_) (fun h5=>?_)
  ·have ah:i<j:=by simpa using h5
   obtain⟨x,hx⟩:=aH (l:=l) (k:=(i+j) / 2) (by omega);have cI:=hv x (afh hx);have AB:=Ng (i:=i) (j:=j) (by omega);refine gO F289 ?_;refine aW (by decide) ?_;refine gO F289 ?_;refine dU ?_;rw[show IntKind.i64.wrap (lJ .shr .u64 (IntKind.u64.wrap (IntKind.i64.wrap (((i,j).fst:Int)+((i,j).snd:Int)))) (ahu 1))=(((i+j) / 2:Nat):Int)from AB];refine aD (aO hx) rfl ?_;refine gD ?_;refine ax (Nf x q cI hq) ?_;refine gD ?_;refine gO F289 ?_;refine ai (fun h6=>?_) (fun h6=>?_)
   ·have hc:vE x q<0:=by simpa using h6
    refine gO F289 ?_;refine J.back (IH ((i+j) / 2+1,j) ⟨by simp only;omega,k2,fun m y hm hy=>?_,k4⟩ (by simp only;omega)) ?_
    ·simp only at hm;rcases adV m ((i+j) / 2)with h|h
     ·have h1:=hs m ((i+j) / 2) y x h hy hx;rw[<- xZ]at h1;exact Ho h1 hc
     ·obtain rfl:m=(i+j) / 2:=by omega
      rw[hx]at hy;cases hy;exact hc
    ·exact sZ
   ·have hc:¬ vE x q<0:=by simpa using h6
    refine gO F289 ?_;refine J.back (IH (i,(i+j) / 2) ⟨by simp only;omega,by simp only;omega,k3,fun m y hm hy=>?_⟩ (by simp only;omega)) ?_
    ·simp only at hm;rcases adV ((i+j) / 2) m with h|h
     ·intro Wg;have h1:=hs ((i+j) / 2) m x y h hx hy;rw[<- xZ]at h1;exact hc (Ho h1 Wg)
     ·obtain rfl:m=(i+j) / 2:=by omega
      rw[hx]at hy;cases hy;exact hc
    ·exact sZ
  ·have aC:i=j:=by simp at h5;omega
   subst aC;have only:∀ m y,l[m]?=some y->da q y=true->m=i:=fun m y hy ha=>by
    rw[<- Dc,beq_iff_eq]at ha;rcases agn m i with h|h|h
    ·have:=k3 m y h hy;omega
    ·exact h
    ·obtain⟨x,hx⟩:=aH (l:=l) (k:=i) (by have:=aX hy;omega);have h1:=hs i m x y h hx hy;rw[<- xZ]at h1;have h2:=k4 i x (Nat.le_refl _) hx;have h3:oE x.set.name x.set.type q.name q.type<0:=by
      have e:y.set.name=q.name/\y.set.type=q.type:=by
       have:da q y=true:=by rw[<- Dc,beq_iff_eq];exact ha
       simpa [da]using this
      rw[e.1,e.2]at h1;exact h1
     exact absurd h3 h2
   rcases adV i l.length with hi|hi
   ·obtain⟨x,hx⟩:=aH hi;have cI:=hv x (afh hx);have Hp:l.any (da q)=da q x:=by
     cases ha:da q x
     ·rw[<- ahx,aiA];rintro⟨y,hy,AD⟩;obtain⟨m,hm⟩:=afe hy;obtain rfl:=only m y hm AD;rw[hx]at hm;cases hm;rw[ha]at AD;cases AD
     ·rw[aiA];exact⟨x,afh hx,ha⟩
    refine gO F289 ?_;refine dU ?_;refine aY (by simp;omega) ?_;refine gD ?_;refine aD (aO hx) rfl ?_;refine gD ?_;refine ax (Nf x q cI hq) ?_;refine gD ?_;refine gO F289 ?_;exact⟨⟨i,by omega,by rw[Hp,<- Dc],only⟩,rfl⟩
   ·have Hp:l.any (da q)=false:=by
     rw[<- ahx,aiA];rintro⟨y,hy,AD⟩;obtain⟨m,hm⟩:=afe hy;obtain rfl:=only m y hm AD;have:=aX hm;omega
    refine gO F289 ?_;refine dU ?_;refine aU (by simp;omega) ?_;refine gD ?_;refine gO F289 ?_;exact⟨⟨i,by omega,by rw[Hp],only⟩,rfl⟩
theorem Hq(z:bc)(q:bC)(hl:z.ae.length<=1000000)(hv:∀ s∈z.ae,Nm.valid s.set.name=true)(hq:Nm.valid q.name=true)(hs:gy z.ae) :
  ar E 235 [z.enc,q.enc] (fun r=>∃ i:Nat,i<=z.ae.length/\r=.aF [.int .i64 i,.bool (z.ae.any (da q))]/\∀ j x,z.ae[j]?=some x->da q x=true->j=i):=by
 refine eP Tryz.func235 ?_;refine jK (Wf z.ae q hl hv hq hs) ?_;rintro r h1 ⟨⟨i,hi,rfl,ho⟩,rfl⟩;refine gO Tryz.func235 ?_;exact⟨i,hi,rfl,ho⟩
theorem Hr{t:Text}(h:Nm.valid t=true):l5 t=Nm.iu t:=by
 unfold l5 Nm.labels;by_cases hr:t=[46]
 ·subst hr;rfl
 ·rw[if_neg hr];have hp:Nm.parts (Nm.split t)=true:=by
   simp only[Nm.valid,agp,decide_eq_true_eq,aft]at h;rcases h with h|h
   ·exact absurd h hr
   ·exact h.2
  cases t with
  |nil=>rfl
  |cons c r =>
   by_cases hc:c=46
   ·subst hc;simp[Nm.split,Nm.parts,Nm.label]at hp
   ·obtain⟨x,u,h1,h2⟩:=Nm.pZ c r hc;rw[h2]at hp ⊢;simp only[Nm.parts,aft,agp]at hp;show(c::x==[42])=(c==42);rcases hp.2.1 with hl|hl
    ·have h0:Nm.p0 (c::x) 0=true:=by
      simp only[Nm.label,decide_eq_true_eq]at hl;exact hl.2.2 0 (by simp)
     have aJ:(c==42)=false:=by
      rw[<- ahx];intro e;have:c=42:=by simpa using e
      subst this;simp[Nm.p0,Nm.Gi]at h0
     have Wh:c≠42:=by simpa using aJ
     rw[aJ];simp[Wh]
    ·have:c::x=[42]:=by simpa using hl
     injection this with e1 e2;subst e1;subst e2;rfl
theorem Dd{s z:Text}(hs:Nm.valid s=true)(hz:Nm.valid z=true):Nm.mF s z=Nm.under s z:=by simp[Nm.mF,hs,hz]
theorem Nh(z:bc)(hf:z.Fits):ar E 168 [z.enc] (· = .bool (oC z)):=by
 obtain⟨ao,l⟩:=z;have oW:ao.length<=maxLen:=hf.ao;have gQ:∀ s∈l,s.set.Fits:=hf.ae;unfold oC;simp only;cases hv:Nm.valid ao
 ·refine eP F168 ?_
  with_reducible refine aq (gU _ oW) ?_
  refine gO F168 ?_;rw[hv];refine aY rfl ?_;refine gO F168 ?_;refine a8 ?_;refine gO F168 ?_;refine a8 ?_;refine gO F168 ?_;simp
 ·have rE:=dV hv;rw[Hr hv];refine eP F168 ?_
  with_reducible refine aq (gU _ oW) ?_
  refine gO F168 ?_;rw[hv];refine aU rfl ?_;refine gO F168 ?_
  with_reducible refine aq (CO _ _) ?_
  refine gO F168 ?_;rw[show preB ao _=Nm.iu ao from L5 ao];cases hw:Nm.iu ao
  case true =>
   refine a8 ?_;refine gO F168 ?_;refine a8 ?_;refine gO F168 ?_;simp
  refine aR ?_;refine gO F168 ?_;refine ai (fun h3=>?_) (fun h3=>?_)
  ·refine gO F168 ?_;simp only[aff]at h3;rw[h3];simp
  ·simp only[aff]at h3;rw[h3];simp only[ahL,afC];have pn:l.length<=20000:=by simp at h3;omega
   refine gO F168 ?_;refine J.loop (κ:=Nat) (rg 2 6++rg 30 44) (fun k=>[(30,.d (.int .i64 k))]) (fun _=>[]) (fun k=>k<=l.length/\chain (fB ao) ia none l=chain (fB ao) ia (bN l k) (l.drop k)/\∀ q,bN l k=some q->er q.set=true) (fun k=>l.length-k) 0 ⟨afv _,rfl,fun q h=>by simp[bN]at h⟩ ?_ ?_
   ·exact sZ
   ·intro k hk IH;refine J.head ag F168 2000 ?_;(conv=>whnf);refine ai (fun h5=>?_) (fun h5=>?_)
    ·have ah:k<l.length:=by simpa using h5
     obtain⟨x,hx⟩:=aH ah;have aG:=vy (ok:=fB ao) (rel:=ia) hx;rw[<- hk.2.1]at aG;have oD:=gQ x (afh hx);have vB:bN l (k+1)=some x:=by simp[bN,hx]
     cases hs:er x.set
     ·refine gO F168 ?_;refine aD (aO hx) rfl ?_;refine gO F168 ?_
      with_reducible refine aq (tp x.set oD) ?_
      refine gO F168 ?_;rw[hs];refine aY rfl ?_;refine gO F168 ?_;rw[aG,fB,hs];simp
     ·have cI:=tC hs;have gS:=dV cI;have rK:=vq x.set.name ao (by unfold maxLen;omega) oW;rw[Dd cI hv]at rK;refine gO F168 ?_;refine aD (aO hx) rfl ?_;refine gO F168 ?_
      with_reducible refine aq (tp x.set oD) ?_
      refine gO F168 ?_;rw[hs];refine aU rfl ?_;refine gO F168 ?_
      with_reducible refine aq (rK) ?_
      refine gO F168 ?_;cases hu:Nm.under x.set.name ao
      ·refine aY rfl ?_;refine gO F168 ?_;rw[aG,fB,hu];simp
      ·have aP:fB ao x=true:=by simp[fB,hs,hu]
       refine aU rfl ?_;refine gO F168 ?_;rcases aiy k with b9|b9
       ·have dI:bN l k=none:=by simp[bN,b9]
        rw[dI]at aG;dsimp only at aG;rw[ahT,aP,afC]at aG;refine aY (by simp[b9]) ?_;refine gO F168 ?_;refine J.back (IH (k+1) ⟨by omega,aG,fun q hq=>by rw[vB]at hq;cases hq;exact hs⟩ (by omega)) ?_;exact sZ
       ·obtain⟨q,hq,dI⟩:=rC b9 hk.1;have C9:=tC (hk.2.2 q dI);rw[dI]at aG;dsimp only at aG;rw[aP,afC]at aG;have hc:=Nd q.set.name q.set.type x.set.name x.set.type C9 cI;rw[xZ]at hc;refine aU (by simp;omega) ?_;refine gO F168 ?_;refine aD (nA hq b9 (by omega)) rfl ?_;refine gO F168 ?_
        with_reducible refine aq (hc) ?_
        refine gO F168 ?_;refine ai (fun h8=>?_) (fun h8=>?_)
        ·have hb:ia q x=false:=by simp at h8;simp[ia];omega
         refine gO F168 ?_;rw[aG,hb,ahH]
        ·have hb:ia q x=true:=by simp at h8;simp[ia];omega
         refine gO F168 ?_;refine J.back (IH (k+1) ⟨by omega,by rw[aG,hb,afC],fun q hq=>by rw[vB]at hq;cases hq;exact hs⟩ (by omega)) ?_;exact sZ
    ·have aC:l.length<=k:=by simpa using h5
     refine gO F168 ?_;rw[hk.2.1,afG aC];rfl
theorem Ni{l:List Signed}{q:bC}:l.any (da q) = !(decide (bk l q<0)):=by
 unfold bk;cases h:l.findIdx? (da q)with
 |none =>
  have h1:=aiH.1 h;have:l.any (da q)=false:=by
   rw[<- ahx,aiA];rintro⟨x,hx,ha⟩;rw[h1 x hx]at ha;cases ha
  rw[this];rfl
 |some i =>
  obtain⟨hi,ha,-⟩:=aiG.1 h;have:l.any (da q)=true:=aiA.2 ⟨_,List.getElem_mem hi,ha⟩;rw[this];simp
theorem Wi(z:bc)(hl:z.ae.length<=1000000)(hv:∀ s∈z.ae,Nm.valid s.set.name=true)(hq:Nm.valid z.ao=true)(hs:gy z.ae):ar E 169 [z.enc] (· = .bool (rD z)):=by
 have f1:=Hq z ⟨z.ao,4⟩ hl hv hq hs;have f2:=Hq z ⟨z.ao,2⟩ hl hv hq hs;obtain⟨ao,l⟩:=z;simp only at *;unfold rD;simp only[<- Ni];refine eP F169 ?_;refine J.mB ?_;refine J.run ag F169 2000 ?_;(conv=>whnf);refine aY (by decide) ?_;refine gO F169 ?_;refine eW (.int .i64 4) (by decide) rfl rfl ?_;refine gO F169 ?_
 with_reducible refine xm (f1) ?_
 rintro r ⟨i,-,rfl,-⟩;refine gO F169 ?_;cases h1:l.any (da ⟨ao,4⟩)
 ·refine aY rfl ?_;refine gO F169 ?_;rfl
 refine aU rfl ?_;refine gO F169 ?_;refine J.again ?_;refine J.run ag F169 2000 ?_;(conv=>whnf);refine aY (by decide) ?_;refine gO F169 ?_;refine eW (.int .i64 2) (by decide) rfl rfl ?_;refine gO F169 ?_
 with_reducible refine xm (f2) ?_
 rintro r ⟨j,-,rfl,-⟩;refine gO F169 ?_;cases h2:l.any (da ⟨ao,2⟩)
 ·refine aY rfl ?_;refine gO F169 ?_;rfl
 refine aU rfl ?_;refine gO F169 ?_;refine J.again ?_;refine J.run ag F169 2000 ?_;(conv=>whnf);refine aU (by decide) ?_;refine gO F169 ?_;simp only[afC];refine J.loop (κ:=Nat) ([2,8]++rg 32 17) (fun k=>[(32,.d (.int .i64 k))]) (fun _=>[]) (fun k=>k<=l.length/\(l.take k).all (fun s=>vz s.set.type (s.set.name==ao))=true) (fun k=>l.length-k) 0 ⟨afv _,rfl⟩ ?_ ?_
 ·exact sZ
 ·intro k hk IH;refine J.head ag F169 2000 ?_;(conv=>whnf);refine ai (fun h5=>?_) (fun h5=>?_)
  ·have ah:k<l.length:=by simpa using h5
   obtain⟨x,hx⟩:=aH ah;refine gO F169 ?_;repeat' (first|with_reducible(first|refine aD (aO hx) rfl ?_|refine aq (M0 _ _) ?_|refine ax (M0 _ _) ?_|refine cY ?_|refine cN ?_|refine ai (fun _=>?_) (fun _=>?_))|refine gA F169 ?_|refine gB ?_|with_reducible rfl)
   all_goals first
    |(rw[di hx (by simp_all)];done)
    |skip
   all_goals
    refine gO F169 ?_;refine J.back (IH (k+1) ⟨by omega,dv hk.2 hx (by simp_all)⟩ (by omega)) ?_;exact sZ
  ·have aC:l.length<=k:=by simpa using h5
   refine gO F169 ?_;rw[lY hk.2 aC]
def tF(ao:Text)(l:List Signed):List (DV × DV):=l.foldl (fun es s=>if iT ao s then bW (.str s.set.name) (.bool true) es else es) []
theorem Wj{ao:Text}{l:List Signed}{k:Nat}{x:Signed}(h:l[k]?=some x):tF ao (l.take (k+1))=if iT ao x then bW (.str x.set.name) (.bool true) (tF ao (l.take k))else tF ao (l.take k):=by
 rw[cG h,tF,ah8];rfl
theorem De(a b:Text):eL (.str a) (.str b)=(a==b):=rfl
def StrKeys(es:List (DV × DV)):Prop:=∀ p∈es,∃ s,p.1=DV.str s
theorem Nj{n:Text}{v:DV}:∀ {es:List (DV × DV)},StrKeys es->StrKeys (bW (.str n) v es)
 |[],_,p,hp=>by simp[bW]at hp;subst hp;exact⟨_,rfl⟩
 |q::es,h,p,hp=>by
  unfold bW at hp;split at hp
  ·rcases afu.1 hp with rfl|hp
   ·exact⟨_,rfl⟩
   ·exact h p (aeR _ hp)
  ·rcases afu.1 hp with rfl|hp
   ·exact h _ (aeQ ..)
   ·exact Nj (fun r hr=>h r (aeR _ hr)) p hp
theorem Nk{n m:Text}{v:DV}:∀ {es:List (DV × DV)},StrKeys es->findD (.str m) (bW (.str n) v es)=if m==n then some v else findD (.str m) es
 |[],_=>by simp[bW,findD,De]
 |q::es,h=>by
  obtain⟨s,hs⟩:=h q (aeQ ..);obtain⟨q1,q2⟩:=q;simp only at hs;subst hs;unfold bW;simp only[De];by_cases e:n=s
  ·subst e;simp only[beq_self_eq_true,if_true,findD,De];by_cases e2:m=n
   ·simp[e2]
   ·simp[e2]
  ·have ih:=Nk (n:=n) (m:=m) (v:=v) (es:=es) (fun r hr=>h r (aeR _ hr));have e':(n==s)=false:=by simpa using e
   simp only[e',aet,if_false,findD,De,ih];by_cases e2:m=s
   ·subst e2;have:(m==n)=false:=by simpa using fun h=>e h.symm
    simp[this]
   ·simp[e2]
theorem Hs(ao:Text)(l:List Signed):StrKeys (tF ao l)/\∀ n,findD (.str n) (tF ao l)=if (cb ao l).contains n then some (.bool true)else none:=by
 have main:∀ (l:List Signed) (es:List (DV × DV)) (C:List Text),StrKeys es->(∀ n,findD (.str n) es=if C.contains n then some (.bool true)else none) ->
   StrKeys (l.foldl (fun es s=>if iT ao s then bW (.str s.set.name) (.bool true) es else es) es)/\∀ n,findD (.str n) (l.foldl (fun es s=>if iT ao s then bW (.str s.set.name) (.bool true) es else es) es)=if (C++cb ao l).contains n then some (.bool true)else none:=by
  intro l
  induction l with
  |nil=>intro es C h1 h2;exact⟨h1,by simpa [cb]using h2⟩
  |cons s l ih =>
   intro es C h1 h2;cases hc:iT ao s
   ·have e:cb ao (s::l)=cb ao l:=by simp[cb,hc]
    simp only[ae5,hc,aet,if_false,e];exact ih es C h1 h2
   ·have e:cb ao (s::l)=s.set.name::cb ao l:=by simp[cb,hc]
    simp only[ae5,hc,if_true,e]
    have:=ih (bW (.str s.set.name) (.bool true) es) (C++[s.set.name]) (Nj h1) (fun n=>by
     rw[Nk h1,h2 n];by_cases h:n=s.set.name
     ·simp[h]
     ·simp[h])
    simpa using this
 have:=main l [] [] (fun p hp=>by simp at hp) (fun n=>by simp[findD])
 simpa [tF]using this
def gV(C:List Text)(cut n:Text):Text:=if (if cut != [] && !Nm.under n cut then[]else cut)==[]&&C.contains n then n else(if cut != [] && !Nm.under n cut then[]else cut)
def ql(C:List Text):Text->List Text->List Text
 |_,[]=>[]
 |cut,n::ns=>gV C cut n::ql C (gV C cut n) ns
theorem Nl(C:List Text):∀ (k:Text) (ns:List Text),(ql C k ns).length=ns.length
 |_,[]=>rfl
 |k,n::ns=>by simp[ql,Nl C _ ns]
def x3(z:bc):List Text:=ql (cb z.ao z.ae) [] (z.ae.map (·.set.name))
theorem Wk(z:bc):(x3 z).length=z.ae.length:=by simp[x3,Nl]
theorem AE{C:List Text}{cut n:Text}(hn:Nm.valid n=true)(hc:cut=[]\/Nm.valid cut=true):gV C cut n=[]\/Nm.valid (gV C cut n)=true:=by
 cases h:(cut != [] && !Nm.under n cut)
 ·simp only[gV,h,aet,if_false];split
  ·exact .inr hn
  ·exact hc
 ·simp only[gV,h,if_true];split
  ·exact .inr hn
  ·exact .inl rfl
theorem Wl(z:bc)(hl:z.ae.length<=1000000)(hv:∀ s∈z.ae,Nm.valid s.set.name=true):ar E 170 [z.enc] (· = Ax z (x3 z)):=by
 have iy:=Wk z;have Hd:x3 z=ql (cb z.ao z.ae) [] (z.ae.map (·.set.name)):=rfl;generalize x3 z=B at *;obtain⟨ao,l⟩:=z;simp only at *;refine eP F170 ?_;refine gO F170 ?_;refine J.loop (κ:=Nat) ([5]++rg 18 22) (fun k=>[(18,.d (.int .i64 k)),(3,.map 2)]) (fun k=>[(2,.map (tF ao (l.take k)))]) (fun k=>k<=l.length) (fun k=>l.length-k) 0 (afv _) ?_ ?_
 ·(conv=>whnf);repeat (first|exact trivial|(refine And.intro (by first|with_reducible rfl|exact congrArg (DV.int .i64) (by omega)|exact rfl|exact congrArg (DV.int .i64) (wrap64 (by omega) (by omega))|exact congrArg (DV.int .i64) ((wrap64 (by omega) (by omega)).trans (by omega))) ?_;conv=>whnf))
 ·intro k hk IH;refine J.head ag F170 2000 ?_;(conv=>whnf);refine ai (fun h5=>?_) (fun h5=>?_)
  ·have ah:k<l.length:=by simpa using h5
   obtain⟨x,hx⟩:=aH ah;have aG:=Wj (ao:=ao) hx;have fC:=(Hs ao (l.take k)).1;refine gO F170 ?_;repeat' (first|with_reducible(first|refine aD (aO hx) rfl ?_|refine cY ?_|refine cN ?_|refine ai (fun _=>?_) (fun _=>?_))|refine gA F170 ?_|refine gB ?_|with_reducible rfl)
   all_goals first
    |(refine aW ⟨⟨_, rfl⟩, fC⟩ ?_
      have hc : iT ao x=true := by simp_all[iT])
    |(have hc:iT ao x=false:=by simp_all[iT])
   all_goals
    rw[hc]at aG;refine gO F170 ?_;refine J.back (IH (k+1) (by omega) (by omega)) ?_;(conv=>whnf);repeat (first|exact trivial|(refine sI ?_;conv=>whnf))
    refine And.intro (by rw[aG];simp) ?_;exact sZ
  ·have aC:l.length<=k:=by simpa using h5
   rw[afS aC];refine gO F170 ?_;refine dU ?_;refine aW (by simp;omega) ?_;refine gD ?_;refine And.intro (by kernel_rfl) ?_;(conv=>whnf);(conv=>whnf);refine gO F170 ?_;refine J.loop (κ:=Nat × Text) [7,8,9,10,11,12,51,52,53,54,55,56,57,58,59,60,61,62,63,64,65,66,67,68,69,70,71,72,73,74,75,76,77,78,79,80,81,82] (fun k=>[(51,.d (.int .i64 k.1)),(7,.d (.str k.2))]) (fun k=>[(3,.arr 0 (9,1) ((B.take k.1++ad6 (l.length-k.1) []).map .str))]) (fun k=>k.1<=l.length/\B.drop k.1=ql (cb ao l) k.2 ((l.drop k.1).map (·.set.name))/\(k.2=[]\/Nm.valid k.2=true)) (fun k=>l.length-k.1) (0,[]) ⟨afv _,by simpa using Hd,.inl rfl⟩ ?_ ?_
   ·(conv=>whnf);repeat (first|exact trivial|(refine sI ?_;conv=>whnf))
    refine And.intro (by simp) ?_;exact sZ
   ·rintro⟨i,cut⟩ hk IH;simp only at hk;refine J.head ag F170 2000 ?_;(conv=>whnf);refine ai (fun h5=>?_) (fun h5=>?_)
    ·have ah:i<l.length:=by simpa using h5
     obtain⟨x,hx⟩:=aH ah;have cI:=hv x (afh hx);have gS:=dV cI;have He:(l.drop i).map (·.set.name)=x.set.name::(l.drop (i+1)).map (·.set.name):=by
      have e1:l[i]=x:=by simpa [ah]using hx
      rw[afH ah,e1];rfl
     obtain⟨-,vA,hcut⟩:=hk;rw[He,ql]at vA;have fP:B[i]?=some (gV (cb ao l) cut x.set.name):=by
      have:=congrArg (fun l=>l[0]?) vA
      simpa using this
     have jl:B.drop (i+1)=ql (cb ao l) (gV (cb ao l) cut x.set.name) ((l.drop (i+1)).map (·.set.name)):=by
      have:=congrArg List.tail vA
      simpa using this
     have pc:=(Hs ao l).2 x.set.name;have fC:=(Hs ao l).1;refine gO F170 ?_;refine aD (aO hx) rfl ?_;refine gO F170 ?_;rcases Df:cut with _|⟨c0,adi⟩
     ·subst Df;refine aU (by simp) ?_;refine gO F170 ?_;refine aY (by simp) ?_;refine gO F170 ?_;refine oX (.bool false) (.bool false) (v := .bool ((cb ao l).contains x.set.name)) (f:=(cb ao l).contains x.set.name) ⟨_,rfl⟩ fC (fun w=>by kernel_rfl) (fun _ _ => .bool _) (by rw[pc];split<;>simp_all) (by rw[pc];split<;>simp_all) ?_;refine gO F170 ?_;cases AF:(cb ao l).contains x.set.name
      ·refine aR ?_;refine gO F170 ?_;have hS:gV (cb ao l) ([]:Text) x.set.name=[]:=by simp[gV];intro h;exact absurd h (by simpa using AF)
       refine aW ⟨by omega,by simp;omega⟩ ?_;refine gO F170 ?_;refine eW (.str []) (by omega) (by simp only[afr,ad1];rw[tB iy ah];rfl) rfl ?_;refine gO F170 ?_;refine J.back (IH (i+1,[]) ⟨by simp only;omega,by rw[hS]at jl;exact jl,by have hq:=AE (C:=cb ao l) cI hcut;rw[hS]at hq;exact hq⟩ (by simp only;omega)) ?_;(conv=>whnf);repeat (first|exact trivial|(refine sI ?_;conv=>whnf))
       refine And.intro (by rw[<- tA (e:=[]) (x:=[]) iy (by rw[hS]at fP;exact fP)];simp[aiz]) ?_;exact sZ
      ·refine a8 ?_;refine gO F170 ?_;have hS:gV (cb ao l) ([]:Text) x.set.name=x.set.name:=by simp[gV];intro h;exact absurd (by simpa using AF) h
       refine aW ⟨by omega,by simp;omega⟩ ?_;refine gO F170 ?_;refine eW (.str []) (by omega) (by simp only[afr,ad1];rw[tB iy ah];rfl) rfl ?_;refine gO F170 ?_;refine J.back (IH (i+1,x.set.name) ⟨by simp only;omega,by rw[hS]at jl;exact jl,by have hq:=AE (C:=cb ao l) cI hcut;rw[hS]at hq;exact hq⟩ (by simp only;omega)) ?_;(conv=>whnf);repeat (first|exact trivial|(refine sI ?_;conv=>whnf))
       refine And.intro (by rw[<- tA (e:=[]) (x:=x.set.name) iy (by rw[hS]at fP;exact fP)];simp[aiz]) ?_;exact sZ
     ·have sx:Nm.valid cut=true:=by
       rcases hcut with h|h
       ·rw[Df]at h;cases h
       ·exact h
      have dL:=dV sx;have rK:=vq x.set.name cut (by unfold maxLen;omega) (by unfold maxLen;omega);rw[Dd cI sx]at rK;rw[<- Df];have aJ:cut≠[]:=by rw[Df];simp
      refine aY (by simpa using aJ) ?_;refine gO F170 ?_
      with_reducible refine aq (rK) ?_
      refine gO F170 ?_;cases hu:Nm.under x.set.name cut
      ·refine aY rfl ?_;refine gO F170 ?_;refine aY (by simp) ?_;refine gO F170 ?_;refine oX (.bool false) (.bool false) (v := .bool ((cb ao l).contains x.set.name)) (f:=(cb ao l).contains x.set.name) ⟨_,rfl⟩ fC (fun w=>by kernel_rfl) (fun _ _ => .bool _) (by rw[pc];split<;>simp_all) (by rw[pc];split<;>simp_all) ?_;refine gO F170 ?_;cases AF:(cb ao l).contains x.set.name
       ·refine aR ?_;refine gO F170 ?_;have hS:gV (cb ao l) cut x.set.name=[]:=by simp[gV,hu,aJ];intro h;exact absurd h (by simpa using AF)
        refine aW ⟨by omega,by simp;omega⟩ ?_;refine gO F170 ?_;refine eW (.str []) (by omega) (by simp only[afr,ad1];rw[tB iy ah];rfl) rfl ?_;refine gO F170 ?_;refine J.back (IH (i+1,[]) ⟨by simp only;omega,by rw[hS]at jl;exact jl,by have hq:=AE (C:=cb ao l) cI hcut;rw[hS]at hq;exact hq⟩ (by simp only;omega)) ?_;(conv=>whnf);repeat (first|exact trivial|(refine sI ?_;conv=>whnf))
        refine And.intro (by rw[<- tA (e:=[]) (x:=[]) iy (by rw[hS]at fP;exact fP)];simp[aiz]) ?_;exact sZ
       ·refine a8 ?_;refine gO F170 ?_;have hS:gV (cb ao l) cut x.set.name=x.set.name:=by simp[gV,hu,aJ];intro h;exact absurd (by simpa using AF) h
        refine aW ⟨by omega,by simp;omega⟩ ?_;refine gO F170 ?_;refine eW (.str []) (by omega) (by simp only[afr,ad1];rw[tB iy ah];rfl) rfl ?_;refine gO F170 ?_;refine J.back (IH (i+1,x.set.name) ⟨by simp only;omega,by rw[hS]at jl;exact jl,by have hq:=AE (C:=cb ao l) cI hcut;rw[hS]at hq;exact hq⟩ (by simp only;omega)) ?_;(conv=>whnf);repeat (first|exact trivial|(refine sI ?_;conv=>whnf))
        refine And.intro (by rw[<- tA (e:=[]) (x:=x.set.name) iy (by rw[hS]at fP;exact fP)];simp[aiz]) ?_;exact sZ
      ·have hS:gV (cb ao l) cut x.set.name=cut:=by simp[gV,hu,aJ]
       refine aU rfl ?_;refine gO F170 ?_;refine aU (by simpa using aJ) ?_;refine gO F170 ?_;refine aR ?_;refine gO F170 ?_;refine aW ⟨by omega,by simp;omega⟩ ?_;refine gO F170 ?_;refine eW (.str []) (by omega) (by simp only[afr,ad1];rw[tB iy ah];rfl) rfl ?_;refine gO F170 ?_;refine J.back (IH (i+1,cut) ⟨by simp only;omega,by rw[hS]at jl;exact jl,by have hq:=AE (C:=cb ao l) cI hcut;rw[hS]at hq;exact hq⟩ (by simp only;omega)) ?_;(conv=>whnf);repeat (first|exact trivial|(refine sI ?_;conv=>whnf))
       refine And.intro (by rw[<- tA (e:=[]) (x:=cut) iy (by rw[hS]at fP;exact fP)];simp[aiz]) ?_;exact sZ
    ·have aC:l.length<=i:=by simpa using h5
     refine gO F170 ?_;simp only[show l.length-i=0 by omega,aiE,ags];rw[afS (by omega)]
theorem Dg{a b c:Text}(h:bD a b<=0)(k:bD b c<=0):bD a c<=0:=by
 rcases aiB h with h|h
 ·rcases aiB k with k|k
  ·exact aha (Az h k)
  ·rw[<- qk k];exact aha h
 ·rw[qk h];exact k
theorem Nn(a:Text):Nm.under a a=true:=by simp[Nm.under]
def jm(l:List Text):Prop:=∀ (i j:Nat) (x y:Text),i<j->l[i]?=some x->l[j]?=some y->bD x y<=0
def tG(l:List Text):Prop:=∀ (i j:Nat) (x y:Text),i<j->l[i]?=some x->l[j]?=some y->Nm.under y x=false
theorem jm.snoc{l:List Text}{c:Text}(h:jm (l++[c])):jm l/\∀ x∈l,bD x c<=0:=by
 refine⟨fun i j x y dY hx hy=>h i j x y dY (by rw[ael (aX hx)];exact hx) (by rw[ael (aX hy)];exact hy),fun x hx=>?_⟩;obtain⟨i,hi⟩:=afe hx;have:=aX hi;exact h i l.length x c this (by rw[ael this];exact hi) (by simp)
theorem vF{α:Type}{l:List α}{c x:α}{i:Nat}(h:(l++[c])[i]?=some x):l[i]?=some x\/(i=l.length/\x=c):=by
 rcases adV i l.length with hi|hi
 ·rw[ael hi]at h;exact .inl h
 ·rw[ae9 hi]at h;have h0:i-l.length=0:=by
   have:=aX h;simp at this;omega
  rw[h0]at h;simp at h;exact .inr ⟨by omega,h.symm⟩
theorem No:∀ (C:List Text),jm C->jm (fq C)/\tG (fq C)/\(∀ c∈C,∃ d∈fq C,Nm.under c d=true):=by
 have main:∀ (n:Nat) (C:List Text),C.length=n->jm C->jm (fq C)/\tG (fq C)/\(∀ c∈C,∃ d∈fq C,Nm.under c d=true):=by
  intro n
  induction n with
  |zero =>
   intro C hn _;obtain rfl:C=[]:=List.eq_nil_of_length_eq_zero hn;exact⟨fun i j x y _ h=>by simp[fq]at h,fun i j x y _ h=>by simp[fq]at h,fun c h=>by simp at h⟩
  |succ n ih =>
   intro C hn hA;rcases aiC C with rfl|⟨P,c,rfl⟩
   ·simp at hn
   rw[aiD]at *;obtain⟨Wm,Wn⟩:=hA.snoc;obtain⟨i1,i2,i3⟩:=ih P (by simpa using hn) Wm;have e:fq (P++[c])=lu (fq P) c:=by rw[fq,ah8];rfl
   have hle:∀ d∈fq P,bD d c<=0:=fun d hd=>Wn d (xR d hd);rw[e];generalize fq P=H at *;rcases aiC H with rfl|⟨H0,d,rfl⟩
   ·have e2:lu [] c=[c]:=rfl;rw[e2];refine⟨fun i j x y dY hx hy=>?_,fun i j x y dY hx hy=>?_,fun x hx=>?_⟩
    ·have:=aX hy;simp at this;omega
    ·have:=aX hy;simp at this;omega
    ·rcases aeI.1 hx with hx|hx
     ·obtain⟨d,hd,-⟩:=i3 x hx;simp at hd
     ·simp at hx;subst hx;exact⟨x,by simp,Nn x⟩
   ·rw[aiD]at *;have e2:lu (H0++[d]) c=if Nm.under c d then H0++[d]else H0++[d]++[c]:=by simp[lu]
    rw[e2];cases hu:Nm.under c d
    ·simp only[aet,if_false];refine⟨fun i j x y dY hx hy=>?_,fun i j x y dY hx hy=>?_,fun x hx=>?_⟩
     ·rcases vF hy with gd|⟨rfl,rfl⟩
      ·rcases vF hx with hx|⟨rfl,rfl⟩
       ·exact i1 i j x y dY hx gd
       ·exact absurd (aX gd) (by omega)
      ·rcases vF hx with hx|⟨h,-⟩
       ·exact hle x (afh hx)
       ·omega
     ·rcases vF hy with gd|⟨rfl,rfl⟩
      ·rcases vF hx with hx|⟨rfl,rfl⟩
       ·exact i2 i j x y dY hx gd
       ·exact absurd (aX gd) (by omega)
      ·rcases vF hx with hx|⟨h,-⟩
       ·rcases vF hx with Db|⟨-,rfl⟩
        ·rw[<- ahx];intro Wo;have hd:(H0++[d])[H0.length]?=some d:=by simp
         have lG:=aX Db;have h1:=i1 i H0.length x d lG hx hd;have h2:=hle d (by simp);have h3:=xY h1 h2 Wo;rw[i2 i H0.length x d lG hx hd]at h3;cases h3
        ·exact hu
       ·omega
     ·rcases aeI.1 hx with hx|hx
      ·obtain⟨q,hq,Wp⟩:=i3 x hx;exact⟨q,List.mem_append_left _ hq,Wp⟩
      ·simp at hx;subst hx;exact⟨x,by simp,Nn x⟩
    ·simp only[if_true];refine⟨i1,i2,fun x hx=>?_⟩;rcases aeI.1 hx with hx|hx
     ·exact i3 x hx
     ·simp at hx;subst hx;exact⟨d,by simp,hu⟩
 exact fun C=>main C.length C rfl
def rL(H:List Text)(n r:Text):Prop:=(r∈H/\Nm.under n r=true)\/(r=[]/\∀ d∈H,Nm.under n d=false)
theorem Np{H:List Text}(hA:jm H)(hP:tG H){n d e:Text}(hd:d∈H)(he:e∈H)(h1:Nm.under n d=true)(h2:Nm.under n e=true):d=e:=by
 obtain⟨i,hi⟩:=afe hd;obtain⟨j,hj⟩:=afe he;rcases agn i j with h|h|h
 ·have:=xY (hA i j d e h hi hj) (AA h2) h1;rw[hP i j d e h hi hj]at this;cases this
 ·subst h;rw[hi]at hj;exact Option.some.inj hj
 ·have:=xY (hA j i e d h hj hi) (AA h1) h2;rw[hP j i e d h hj hi]at this;cases this
theorem rL.unique{H:List Text}(hA:jm H)(hP:tG H){n r s:Text}(h1:rL H n r)(h2:rL H n s):r=s:=by
 rcases h1 with⟨a1,a2⟩|⟨a1,a2⟩
 ·rcases h2 with⟨b1,b2⟩|⟨b1,b2⟩
  ·exact Np hA hP a1 b1 a2 b2
  ·rw[b2 r a1]at a2;cases a2
 ·rcases h2 with⟨b1,b2⟩|⟨b1,b2⟩
  ·rw[a2 s b1]at b2;cases b2
  ·rw[a1,b1]
theorem Ht{α:Type}(p:α->Bool):∀ (l:List α),∀ x∈l.takeWhile p,p x=true
 |[],x,h=>by simp at h
 |a::l,x,h=>by
  rw[aiJ]at h;cases ha:p a
  ·rw[ha]at h;simp at h
  ·rw[ha]at h;rcases afu.1 h with rfl|h
   ·exact ha
   ·exact Ht p l x h
theorem Nq{α:Type}(p:α->Bool):∀ (l:List α) (x:α),l[(l.takeWhile p).length]?=some x->p x=false
 |[],x,h=>by simp at h
 |a::l,x,h=>by
  rw[aiJ]at h;cases ha:p a
  ·rw[ha]at h;simp at h;rw[<- h];exact ha
  ·rw[ha]at h;exact Nq p l x (by simpa using h)
theorem Nr{H:List Text}(hA:jm H)(hP:tG H){n:Text}{k:Nat}(hk:k<=H.length)(kE:∀ m d,m<k->H[m]?=some d->bD d n<=0) :
  rL H n (mN H n (eY H n k))/\(∀ m d,m<eY H n k->H[m]?=some d->bD d n<=0):=by
 have rE:=C7 (n:=n) hk;have low:∀ m d,m<eY H n k->H[m]?=some d->bD d n<=0:=fun m d hm hd=>by
  rcases adV m k with h|h
  ·exact kE m d h hd
  ·unfold eY at hm;have h1:(H.drop k)[m-k]?=some d:=by rw[afw,show k+(m-k)=m by omega];exact hd
   have h2:=aiI (fun c=>decide (bD c n<=0)) (l:=H.drop k);have h3:((H.drop k).takeWhile fun c=>decide (bD c n<=0))[m-k]?=some d:=by
    obtain⟨r,hr⟩:=h2;rw[<- hr,ael (by omega)]at h1;exact h1
   simpa using Ht _ _ d (afh h3)
 have high:∀ m d,eY H n k<=m->H[m]?=some d->Nm.under n d=false:=fun m d hm hd=>by
  rw[<- ahx];intro hu;have h1:=AA hu;obtain⟨e,he⟩:=aH (l:=H) (k:=eY H n k) (by have:=aX hd;omega);have h2:bD e n<=0:=by
   rcases adV (eY H n k) m with h|h
   ·exact Dg (hA _ m e d h he hd) h1
   ·obtain rfl:m=eY H n k:=by omega
    rw[he]at hd;cases hd;exact h1
  have h3:(H.drop k)[((H.drop k).takeWhile fun c=>decide (bD c n<=0)).length]?=some e:=by
   rw[afw];exact he
  have h6:=Nq _ _ e h3;simp at h6;omega
 refine⟨?_,low⟩;generalize eY H n k=j at *;unfold mN;by_cases hj:j=0
 ·rw[if_pos hj];refine .inr ⟨rfl,fun d hd=>?_⟩;obtain⟨m,hm⟩:=afe hd;exact high m d (by omega) hm
 ·rw[if_neg hj];obtain⟨c,hc⟩:=aH (l:=H) (k:=j-1) (by omega);rw[hc];dsimp only;cases hu:Nm.under n c
  ·simp only[aet,if_false];refine .inr ⟨rfl,fun d hd=>?_⟩;obtain⟨m,hm⟩:=afe hd;rcases adV m j with h|h
   ·rcases adV m (j-1)with h'|h'
    ·rw[<- ahx];intro Wq;have:=xY (hA m (j-1) d c h' hm hc) (low (j-1) c (by omega) hc) Wq;rw[hP m (j-1) d c h' hm hc]at this;cases this
    ·obtain rfl:m=j-1:=by omega
     rw[hc]at hm;cases hm;exact hu
   ·exact high m d h hm
  ·simp only[if_true];exact .inl ⟨afh hc,hu⟩
theorem Wr{C H:List Text}(hA:jm H)(hP:tG H)(rM:∀ d∈H,d∈C)(x4:∀ c∈C,∃ d∈H,Nm.under c d=true)(aJ:∀ c∈C,c≠[]){cut n:Text}{prev:Option Text}
  (hcut:match prev with|none=>cut=[]|some p=>rL H p cut) (Dh:∀ d∈H,bD d n<0->∃ p,prev=some p/\bD d p<=0) (ow:∀ p,prev=some p->bD p n<=0):rL H n (gV C cut n):=by
 have key:∀ d∈H,Nm.under n d=true->d≠n->cut=d:=fun d hd hu rN=>by
  have h1:=AA hu;have h2:bD d n<0:=by
   rcases aiB h1 with h|h
   ·exact h
   ·exact absurd (qk h) rN
  obtain⟨p,hp,kF⟩:=Dh d hd h2;have h3:=xY kF (ow p hp) hu;rw[hp]at hcut;exact hcut.unique hA hP (.inl ⟨hd,h3⟩)
 by_cases hc:cut≠[]/\Nm.under n cut=true
 ·have e:gV C cut n=cut:=by simp[gV,hc.1,hc.2]
  rw[e];refine .inl ⟨?_,hc.2⟩;cases prev with
  |none=>exact absurd hcut hc.1
  |some p =>
   rcases hcut with h|h
   ·exact h.1
   ·exact absurd h.1 hc.1
 ·have no:∀ d∈H,Nm.under n d=true->d=n:=fun d hd hu=>by
   apply Classical.byContradiction;intro rN;have:=key d hd hu rN;subst this;exact hc ⟨aJ _ (rM _ hd),hu⟩
  have e0:(if cut != [] && !Nm.under n cut then[]else cut)=[]:=by
   by_cases h1:cut=[]
   ·simp[h1]
   ·have:Nm.under n cut=false:=by
     rw[<- ahx];exact fun h=>hc ⟨h1,h⟩
    simp[h1,this]
  have e:gV C cut n=if C.contains n then n else[]:=by
   simp only[gV,e0];cases C.contains n<;>rfl
  rw[e];cases eo:C.contains n
  ·refine .inr ⟨by simp,fun d hd=>?_⟩;rw[<- ahx];intro hu;have:=no d hd hu;subst this;have:C.contains d=true:=by simpa using rM d hd
   rw[eo]at this;cases this
  ·simp only[if_true];have hn:n∈C:=by simpa using eo
   obtain⟨d,hd,hu⟩:=x4 n hn;have:=no d hd hu;subst this;exact .inl ⟨hd,hu⟩
theorem Ns{C H:List Text}(hA:jm H)(hP:tG H)(rM:∀ d∈H,d∈C)(x4:∀ c∈C,∃ d∈H,Nm.under c d=true)(aJ:∀ c∈C,c≠[]) :
  ∀ (rest done:List Text) (cut:Text) (k:Nat),jm (done++rest)->(∀ c∈C,c∈done++rest)->k<=H.length->(match done.getLast? with|none=>cut=[]|some p=>rL H p cut)->(∀ m d,m<k->H[m]?=some d->∃ p,done.getLast?=some p/\bD d p<=0)->ql C cut rest=nJ H k rest
 |[],_,_,_,_,_,_,_,_=>rfl
 |n::rest,done,cut,k,rO,aL,hk,hcut,kE=>by
  have ow:∀ p,done.getLast?=some p->bD p n<=0:=fun p hp=>by
   have hl:0<done.length:=by cases done with|nil=>simp at hp|cons=>simp
   rw[ahO]at hp;exact rO (done.length-1) done.length p n (by omega) (by rw[ael (by omega)];exact hp) (by simp)
  have Dh:∀ d∈H,bD d n<0->∃ p,done.getLast?=some p/\bD d p<=0:=fun d hd rN=>by
   have:=aL d (rM d hd);obtain⟨i,hi⟩:=afe this;have qI:(done++n::rest)[done.length]?=some n:=by simp
   have ah:i<done.length:=by
    rcases agn i done.length with h|h|h
    ·exact h
    ·subst h;rw[qI]at hi;cases hi;rw[pq]at rN;omega
    ·have h1:=rO done.length i n d h qI hi;have h2:=Ay d n;omega
   rw[ael ah]at hi;obtain⟨p,hp⟩:=aH (l:=done) (k:=done.length-1) (by omega);refine⟨p,by rw[ahO];exact hp,?_⟩;rcases adV i (done.length-1)with h|h
   ·exact rO i (done.length-1) d p h (by rw[ael ah];exact hi) (by rw[ael (by omega)];exact hp)
   ·obtain rfl:i=done.length-1:=by omega
    rw[hp]at hi;cases hi;rw[pq];omega
  have f1:=Wr hA hP rM x4 aJ hcut Dh ow
  obtain⟨f2,f3⟩:=Nr hA hP (n:=n) hk (fun m d hm hd=>by
   obtain⟨p,hp,kF⟩:=kE m d hm hd
   exact Dg kF (ow p hp))
  have e:=f1.unique hA hP f2;simp only[ql,nJ,e]
  congr 1
  have ih:=Ns hA hP rM x4 aJ rest (done++[n]) (mN H n (eY H n k)) (eY H n k) (by simpa using rO) (by simpa using aL) (C7 hk) (by simpa using f2) (fun m d hm hd=>⟨n,by simp,f3 m d hm hd⟩);exact ih
theorem Ws{a b c:Signed}(h:ia a b=true)(k:ia b c=true):ia a c=true:=by
 simp only[ia,decide_eq_true_eq]at *;rw[<- xZ]at *;exact Ho h k
theorem Nt{ok:Signed->Bool}:∀ {l:List Signed} {p:Option Signed},chain ok ia p l=true->gy l/\∀ q,p=some q->∀ x∈l,ia q x=true
 |[],p,_=>⟨fun i j x y _ h=>by simp at h,fun q _ x hx=>by simp at hx⟩
 |s::l,p,h=>by
  simp only[chain,aft]at h;obtain⟨i1,i2⟩:=Nt h.2;refine⟨fun i j x y dY hx hy=>?_,fun q hq x hx=>?_⟩
  ·cases j with
   |zero=>omega
   |succ j =>
    rw[agf]at hy;cases i with
    |zero =>
     simp at hx;subst hx
     simpa [ia]using i2 _ rfl y (afh hy)
    |succ i =>
     rw[agf]at hx;exact i1 i j x y (by omega) hx hy
  ·subst hq;rcases afu.1 hx with rfl|hx
   ·exact h.1.2
   ·exact Ws h.1.2 (i2 _ rfl x hx)
theorem Hu{a b:cM}(h:oB a b<0):bD a.name b.name<=0:=by
 unfold oB at h;split at h
 ·omega
 ·rename_i e;simp at e;omega
theorem Di{l:List Signed}(h:gy l):jm (l.map (·.set.name)):=fun i j x y dY hx hy=>by
 rw[ad1]at hx hy;obtain⟨a,ha,rfl⟩:=ad8.1 hx;obtain⟨b,hb,rfl⟩:=ad8.1 hy;exact Hu (h i j a b dY ha hb)
theorem Nu{l:List Text}:jm l↔l.Pairwise (fun x y=>bD x y<=0):=by
 rw[List.pairwise_iff_getElem];constructor
 ·exact fun h i j hi hj dY=>h i j _ _ dY (by simp[hi]) (by simp[hj])
 ·intro h i j x y dY hx hy;obtain⟨hi,rfl⟩:=ag2.1 hx;obtain⟨hj,rfl⟩:=ag2.1 hy;exact h i j hi hj dY
theorem Nv{ao:Text}{l:List Signed}(h:jm (l.map (·.set.name))):jm (cb ao l) :=
 Nu.2 ((Nu.1 h).sublist (List.Sublist.map _ List.filter_sublist))
theorem Wt{z:bc}(hs:gy z.ae)(aJ:∀ s∈z.ae,s.set.name≠[]):x3 z=jk z:=by
 have hA:=Nv (ao:=z.ao) (Di hs);obtain⟨h1,h2,h3⟩:=No _ hA;refine Ns h1 h2 xR h3 (fun c hc=>?_) (z.ae.map (·.set.name)) [] [] 0 (by simpa using Di hs) (fun c hc=>?_) (afv _) rfl (fun m d hm=>by omega)
 ·obtain⟨s,h,rfl,-⟩:=qi hc;exact aJ s h
 ·obtain⟨s,h,rfl,-⟩:=qi hc
  simpa using⟨s,h,rfl⟩
def oF(q:Signed)(t:Option Signed):Bool:=match t with|none=>true|some t => !(t.set.name==q.set.name&&t.set.type != 8)
theorem Wu{p:Text}{s:Signed}{t:Option Signed}:tE (some p) s t=((s.set.type != 3||p != s.set.name)&&(if s.set.type==3 then oF s t else true)):=by
 unfold tE oF;by_cases h:s.set.type=3
 ·simp[h]<;>rfl
 ·have hb:(s.set.type != 3)=true:=by simpa using h
  have hc:(s.set.type==3)=false:=by simpa using h
  simp[hb,hc]
theorem Nw:∀ (l:List Signed) (q:Signed) (al:Text),gy (q::l)->(∀ s∈q::l,s.set.name≠[]/\s.set.type<=8) ->
  ((q.set.type≠3/\(al=[]\/bD al q.set.name<0))\/(al=q.set.name/\q.set.type=3)\/(al=q.set.name/\q.set.type=8)) ->
  ((if q.set.type==3 then oF q l.head? else true)&&kD (some q.set.name) l)=mM al (some q.set.name) l
 |[],q,al,_,_,_=>by simp[oF,kD,mM]
 |s::l,q,al,hs,hn,bg=>by
  have ah:oB q.set s.set<0:=hs 0 1 q s (by omega) rfl rfl;have iN:gy (s::l):=fun i j x y dY hx hy=>hs (i+1) (j+1) x y (by omega) hx hy;have jn:∀ t∈s::l,t.set.name≠[]/\t.set.type<=8:=fun t ht=>hn t (aeR _ ht);have hs8:=(jn s (aeQ ..)).2;have vG:=(jn s (aeQ ..)).1;have ih:=Nw l s (if s.set.type==3 then s.set.name else al) iN jn;have e1:kD (some q.set.name) (s::l)=((s.set.type != 3||q.set.name != s.set.name)&&((if s.set.type==3 then oF s l.head? else true)&&kD (some s.set.name) l)):=by
   rw[kD,Wu,aiK]
  rw[e1,List.head?_cons,mM];generalize mM (if (s.set.type==3)=true then s.set.name else al) (some s.set.name) l=T at *;generalize ((if s.set.type==3 then oF s l.head? else true)&&kD (some s.set.name) l)=A at *;by_cases pr:q.set.name=s.set.name
  ·have Mk:q.set.type<s.set.type:=by
    have:oB q.set s.set=jP q.set.type s.set.type:=by simp[oB,pr,pq]
    rw[this]at ah;unfold jP at ah;split at ah
    ·assumption
    ·split at ah<;>omega
   by_cases h3:s.set.type=3
   ·simp[h3,pr,vG]
   ·have hb:(s.set.type != 3)=true:=by simpa using h3
    have hc:(s.set.type==3)=false:=by simpa using h3
    have hd:(s.set.name != [])=true:=by simpa using vG
    rcases bg with⟨a1,a2⟩|⟨a1,a2⟩|⟨a1,a2⟩
    ·have rE:al≠s.set.name:=by
      rcases a2 with rfl|a2
      ·exact fun h=>vG h.symm
      ·rintro rfl;rw[pr,pq]at a2;omega
     have:=ih (.inl ⟨h3,by simpa [h3,<- pr]using a2⟩);rw[this];have Wv:(s.set.name==al)=false:=by simpa using fun h=>rE h.symm
     have Nx:(q.set.type==3)=false:=by simpa using a1
     simp[hb,hc,hd,Nx,pr,Wv]
    ·by_cases h8:s.set.type=8
     ·have:=ih (.inr (.inr ⟨by simp[h3,a1,pr],h8⟩));rw[this];simp[h8,oF]
     ·have Ww:(s.set.type != 8)=true:=by simpa using h8
      simp[hb,hc,hd,Ww,oF,a1,a2,pr]
    ·omega
  ·have bI:bD q.set.name s.set.name<0:=by
    have:=Hu ah;rcases aiB this with h|h
    ·exact h
    ·exact absurd (qk h) pr
   have:=ih (by
    by_cases h3:s.set.type=3
    ·exact .inr (.inl ⟨by simp[h3],h3⟩)
    ·refine .inl ⟨h3,?_⟩;have e:(if (s.set.type==3)=true then s.set.name else al)=al:=by simp[h3]
     rw[e];rcases bg with⟨-,a|a⟩|⟨a,-⟩|⟨a,-⟩
     ·exact .inl a
     ·exact .inr (Az a bI)
     ·rw[a];exact .inr bI
     ·rw[a];exact .inr bI)
   rw[this];have e2:oF q (some s)=true:=by
    have:(s.set.name==q.set.name)=false:=by simpa using fun h=>pr h.symm
    simp[oF,this]
   have e3:(q.set.name==s.set.name)=false:=by simpa using pr
   have e4:(q.set.name != s.set.name)=true:=by simpa using pr
   rw[e2,e3,e4];simp
theorem Wx{l:List Signed}(hs:gy l)(hn:∀ s∈l,s.set.name≠[]/\s.set.type<=8):kD none l=mM [] none l:=by
 cases l with
 |nil=>rfl
 |cons s l =>
  have:=Nw l s (if s.set.type==3 then s.set.name else[]) hs hn (by
   by_cases h3:s.set.type=3
   ·exact .inr (.inl ⟨by simp[h3],h3⟩)
   ·exact .inl ⟨h3,.inl (by simp[h3])⟩)
  have e1:kD none (s::l)=((if s.set.type==3 then oF s l.head? else true)&&kD (some s.set.name) l):=by
   rw[kD]
   congr 1
   unfold tE oF;by_cases h3:s.set.type=3
   ·simp[h3]<;>rfl
   ·simp[h3]
  rw[e1,this,mM];simp
theorem Ny{ao:Text}:∀ (l:List Signed) (B:List Text),l.length=B.length->((l.zip ((l.zip B).map fun p=>rF p.1 p.2)).all fun p=>vC ao p.1 p.2)=(((l.zip B).all fun p=>tD p.1 p.2)&&l.all fun s=>jS s.sigs ao)
 |[],B,_=>by simp
 |s::l,[],h=>by simp at h
 |s::l,b::B,h=>by
  have ih:=Ny (ao:=ao) l B (by simpa using h);simp only[List.zip_cons_cons,List.map_cons,List.all_cons];rw[ih];unfold vC tD;cases jS s.sigs ao<;>cases rF s b<;>simp[aiK,Bool.and_left_comm]
theorem Wy{s:cM}(h:er s=true):s.type<=8:=by
 simp only[er,aft,decide_eq_true_eq]at h;exact h.1.1.1.1.1.2.2
theorem Wz{t:Text}(h:Nm.valid t=true):t≠[]:=by
 rintro rfl
 revert h
 decide
theorem Nz{z:bc}(h:oC z=true):gy z.ae/\(∀ s∈z.ae,Nm.valid s.set.name=true)/\(∀ s∈z.ae,s.set.name≠[]/\s.set.type<=8):=by
 obtain⟨-,g2,-⟩:=xT h;simp only[oC,aft]at h;have g3:∀ s∈z.ae,er s.set=true:=fun s hs=>by
  have:=g2 s hs;simp only[fB,aft]at this;exact this.1
 exact⟨(Nt h.2).1,fun s hs=>tC (g3 s hs),fun s hs=>⟨Wz (tC (g3 s hs)),Wy (g3 s hs)⟩⟩
theorem vH(z:bc)(hf:z.Fits):ar E 98 [z.enc] (· = .bool (eu z)):=by
 unfold eu;cases h1:oC z
 ·have bZ:=Nh z hf;rw[h1]at bZ;refine eP Tryz.func98 ?_;repeat' (first|with_reducible(first|refine aq (bZ) ?_|refine ax (bZ) ?_|refine cY ?_|refine cN ?_|refine ai (fun _=>?_) (fun _=>?_))|refine gA Tryz.func98 ?_|refine gB ?_|with_reducible rfl)
  all_goals simp_all
 ·obtain⟨g1,g2,g3⟩:=xT h1;obtain⟨f1,f2,f3⟩:=Nz h1;have gl:z.ae.length<=1000000:=by omega
  have bZ:=Nh z hf;rw[h1]at bZ;have Hv:=Wl z gl f2;rw[Wt f1 (fun s hs=>(f3 s hs).1)]at Hv;have rE:=V7 z (jk z) gl;rw[Wx f1 f3]at rE;have NA:C' z=(((z.ae.zip (jk z)).all fun p=>tD p.1 p.2)&&z.ae.all fun s=>jS s.sigs z.ao):=Ny _ _ (tz z).symm;rw[NA];have Hw:=V2 z (jk z) (tz z) gl;have NB:=V3 z (jk z) (tz z) gl;have NC:=V4 z (jk z) gl;change ar E _ _ (· = .bool (Aq z))at Hw;generalize ((z.ae.zip (jk z)).all fun p=>tD p.1 p.2)=S at *;generalize (z.ae.all fun s=>jS s.sigs z.ao)=F at *;have ND:=Wi z gl f2 g3 f1;clear NA h1 g1 g2 g3 f1 f2 f3;generalize mM [] none z.ae=T at *;generalize Aq z=Fo at *;generalize rD z=Tw at *;generalize jk z=B at *;refine eP Tryz.func98 ?_;repeat' (first|with_reducible(first|refine aq (bZ) ?_|refine ax (bZ) ?_|refine aq (ND) ?_|refine ax (ND) ?_|refine aq (Hv) ?_|refine ax (Hv) ?_|refine aq (rE) ?_|refine ax (rE) ?_|refine aq (Hw) ?_|refine ax (Hw) ?_|refine aq (NB) ?_|refine ax (NB) ?_|refine aq (NC) ?_|refine ax (NC) ?_|refine cY ?_|refine cN ?_|refine ai (fun _=>?_) (fun _=>?_))|refine gA Tryz.func98 ?_|refine gB ?_|with_reducible rfl)
  all_goals simp_all
end Go.Proofs.YtfmdaiojokniiaaGreatDoor.P
end
