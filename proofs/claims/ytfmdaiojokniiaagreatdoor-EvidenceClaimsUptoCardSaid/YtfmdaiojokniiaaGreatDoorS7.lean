/- Lemmas of mine. Conditions: as stated. -/
import Derived.Test.YtfmdaiojokniiaaGreatDoorS4
import Derived.Test.YtfmdaiojokniiaaGreatDoorS5
import Derived.Shelf.SlSortCmp.WholeK
import Derived.Shelf.SlicesG.Cmp
import Derived.Shelf.SortM.Plain
import Derived.Shelf.Slices.CompactI
import Derived.Ground.SlgmProg
import Derived.Ground.Names2Prog
import Derived.Ground.SlsfProg
import Derived.Ground.SlgcProg
import Derived.Test.YtfmdaiojokniiaaGreatDoorProg
import Derived.Shelf.Bytes.WriteByteAt
import Derived.Ground.NamesProg
set_option linter.unusedVariables false
set_option linter.unusedSimpArgs false
open Array renaming getElem?_modify->aes,getElem?_eq_none->ahg,getElem?_eq_getElem->aev,getElem?_mapIdx->ahl
open Bool renaming and_eq_true->aft,eq_iff_iff->ahf
open Int renaming toNat_natCast->afr
open List renaming mem_cons->afu,cons_append->aeH,getElem?_map->ad1,mem_cons_self->aeQ,map_map->agj,mem_cons_of_mem->aeR,suffix_iff_eq_drop->ahi,length_map->aff,take_length->ahj,mem_of_getElem?->afh,eq_nil_of_length_eq_zero->aee,map_eq_nil_iff->ahk,getElem?_eq_getElem->afo,getElem?_eq_some_iff->ag2
open Nat renaming zero_le->afv,le_refl->aed,lt_or_ge->adV,lt_succ_iff_lt_or_eq->ahh,lt_of_lt_of_le->ad4
open Option renaming map_some->aeT
section
namespace Go.Proofs.YtfmdaiojokniiaaGreatDoor.Nm
def split:List UInt8->List (List UInt8)
 |[]=>[[]]
 |c::r=>if c=46 then[]::split r else match split r with
  |[]=>[[c]]
  |h::t=>(c::h)::t
theorem oy(l:List UInt8):split l≠[]:=by
 cases l with
 |nil=>simp[split]
 |cons c r=>simp only[split];split<;>(try split)<;>simp
theorem pZ(c:UInt8)(r:List UInt8)(h:c≠46):∃ x t,split r=x::t/\split (c::r)=(c::x)::t:=by
 have:=oy r
 match hr:split r,this with
 |x::t,_=>exact⟨x,t,rfl,by simp[split,h,hr]⟩
theorem Cu(a b:List UInt8):split (a++46::b)=split a++split b:=by
 induction a with
 |nil=>simp[split]
 |cons c r ih =>
  by_cases h:c=46
  ·subst h;simp[split,ih]
  ·obtain⟨x,t,h1,h2⟩:=pZ c r h;obtain⟨y,u,h3,h4⟩:=pZ c (r++46::b) h;rw[aeH,h4,h2];rw[ih,h1]at h3;simp only[aeH,List.cons.injEq]at h3;obtain⟨rfl,rfl⟩:=h3;rfl
theorem Cv(l:List UInt8)(h:46 ∉ l):split l=[l]:=by
 induction l with
 |nil=>rfl
 |cons c r ih =>
  simp only[afu,not_or]at h;have hc:c≠46:=fun e=>h.1 e.symm;simp[split,hc,ih h.2]
theorem Tj(l:List UInt8):split (l++[46])=split l++[[]]:=Cu l []
theorem Tk(l:List UInt8)(c:UInt8)(h:c≠46):∃ i x,split l=i++[x]/\split (l++[c])=i++[x++[c]]:=by
 induction l with
 |nil=>exact⟨[],[],rfl,by simp[split,h]⟩
 |cons d r ih =>
  obtain⟨i,x,h1,h2⟩:=ih;by_cases hd:d=46
  ·subst hd;exact⟨[]::i,x,by simp[split,h1],by simp[split,h2]⟩
  ·obtain⟨y,u,h3,h4⟩:=pZ d r hd;obtain⟨z,v,h5,h6⟩:=pZ d (r++[c]) hd;rw[h1]at h3;rw[h2]at h5;rw[aeH,h6,h4];cases i with
   |nil =>
    simp only[List.nil_append,List.cons.injEq]at h3 h5;obtain⟨rfl,rfl⟩:=h3;obtain⟨rfl,rfl⟩:=h5;exact⟨[],d::x,rfl,rfl⟩
   |cons p q =>
    simp only[aeH,List.cons.injEq]at h3 h5;obtain⟨rfl,rfl⟩:=h3;obtain⟨rfl,rfl⟩:=h5;exact⟨(d::p)::q,x,rfl,rfl⟩
theorem Lu(l:List UInt8):∀ x∈split l,46 ∉ x:=by
 induction l with
 |nil=>simp[split]
 |cons c r ih =>
  by_cases hc:c=46
  ·subst hc;simp only[split,if_true];intro x hx;rcases afu.1 hx with rfl|h
   ·simp
   ·exact ih x h
  ·obtain⟨y,u,h1,h2⟩:=pZ c r hc;rw[h2];intro x hx;rcases afu.1 hx with rfl|h
   ·simp only[afu,not_or];exact⟨fun e=>hc e.symm,ih y (by rw[h1];simp)⟩
   ·exact ih x (by rw[h1];simp[h])
def glue:List (List UInt8)->List UInt8
 |[]=>[]
 |[x]=>x
 |x::y::t=>x++46::glue (y::t)
theorem uY(l:List UInt8):glue (split l)=l:=by
 induction l with
 |nil=>rfl
 |cons c r ih =>
  by_cases hc:c=46
  ·subst hc;simp only[split,if_true];have:=oy r
   match hr:split r,this with
   |x::t,_=>rw[hr]at ih;simp[glue,ih]
  ·obtain⟨y,u,h1,h2⟩:=pZ c r hc;rw[h2];rw[h1]at ih;cases u with
   |nil=>simp only[glue]at ih ⊢;rw[ih]
   |cons z v=>simp only[glue,aeH]at ih ⊢;rw[ih]
theorem Lv(ls:List (List UInt8))(aJ:ls≠[])(h:∀ x∈ls,46 ∉ x):split (glue ls)=ls:=by
 induction ls with
 |nil=>exact absurd rfl aJ
 |cons x t ih =>
  cases t with
  |nil=>exact Cv x (h x (by simp))
  |cons y u =>
   simp only[glue];rw[Cu,Cv x (h x (by simp)),ih (by simp) (fun z hz=>h z (by simp[hz]))];rfl
theorem Lw(a b:List UInt8)(h:split a=split b):a=b:=by rw[<- uY a,<- uY b,h]
def Gi(c:UInt8):Bool:=(decide (97<=c.toNat)&&decide (c.toNat<=122))||(decide (48<=c.toNat)&&decide (c.toNat<=57))
def p0(l:List UInt8)(i:Nat):Bool:=match l[i]? with
 |some c=>Gi c||(c==45&&decide (0<i)&&decide (i+1<l.length))
 |none=>true
def label(l:List UInt8):Bool:=decide (1<=l.length/\l.length<=12/\∀ i,i<l.length->p0 l i=true)
def parts(ls:List (List UInt8)):Bool:=decide (ls.length<=8)&&(match ls with
 |[]=>true
 |x::t=>(label x||x==[42])&&t.all label)
def valid(l:List UInt8):Bool:=decide (l=[46])||(decide (l.length<=60)&&parts (split l))
def labels(l:List UInt8):List (List UInt8):=if l=[46]then[]else split l
def under(s z:List UInt8):Bool:=decide (labels z <:+ labels s)
def iu(l:List UInt8):Bool:=match l with
 |c::_=>c==42
 |[]=>false
end Go.Proofs.YtfmdaiojokniiaaGreatDoor.Nm
end
section
namespace Go.aA
open Go Go.RowKit
def LH(H:List af)(r:AV):Bool:=Gg H.length [] H&&ir H.length [] r
theorem aw.rj{E:Env}{f:FuncId}{H H1:List af}{args:List AV}{r0:AV}(hc:aw E f H args (fun a b=>a=r0/\b=H1))(hr:lj H.length [] 0 H1=H)(hk:LH H r0=true):aw E f H args (fun a b=>a=r0/\b=H):=by
 simp only[LH,aft]at hk;obtain⟨dL,hv⟩:=hk;unfold aw at hc ⊢;refine⟨hc.1,hc.2.1,fun c vs h1 h2 h3=>(hc.2.2 c vs h1 h2 h3).mono fun e w' ⟨c',r,v,k1,k2,⟨k3,z7⟩,k4,k5,k6⟩=>?_⟩;subst k3;have a1:=k5.gu (n:=H.length) (B:=[]) (by rw[z7,hr];exact dL);have a2:=Cr (n:=H.length) (B:=[]) hv k4;obtain⟨b1,b2⟩:=a1.Lt (aE:=c'.aE) (fun b hb => .inl hb);refine⟨⟨(c'.gu H.length []).own,(c'.gu H.length []).heap,c'.aE,c'.w⟩,r,v,k1,k2,⟨rfl,by show lj _ _ 0 c'.heap=H;rw[z7,hr]⟩,b2 _ _ a2,b1,?_⟩;have hid:∀ i,i<H.length->dH H.length [] i=false:=fun i hi=>by
  have:Nat.ble H.length i=false:=by
   cases q:Nat.ble H.length i
   ·rfl
   ·have:=Nat.le_of_ble_eq_true q;omega
  simp only[dH,this];rfl
 exact{
  aE:=k6.aE
  os:=k6.os
  tape:=k6.tape
  output:=k6.output
  size:=k6.size
  keep:=k6.keep
  dB:=fun i b n hi hb=>k6.dB i b n (uX hi).2 hb
  boxes:=fun i bx hi=>by
   have ah:i<H.length:=by rw[<- h1];exact aX hi
   have e1:(lj H.length [] 0 c'.heap)[i]?=c'.heap[i]? := xG 0 i c'.heap (by rw[Nat.zero_add];exact hid i ah)
   exact uZ (c:=c') (fun x hx=>e1.trans hx) (fun x _=>zY (hid i ah)) (k6.boxes i bx hi) }
theorem oz{G:List (Nat × DV)}{s:List AV}{f:FuncId}:bh G s (.func f) (.fn (.func f) [] []):=fun c a _ _=>by
 have:a.eval (.func f)=.func (.func f) #[] #[]:=rfl;rw[this];exact .fn _ [] [] #[] #[] rfl rfl (fun j x v hx=>by simp at hx) (fun j x v hx=>by simp at hx)
theorem Ts{G:List (Nat × DV)}{s:List AV}{k:IntKind}{n:Int}:bh G s (.const (.int k n)) (.d (.int k n)):=fun c a _ _ => .d _ _ (.int _ _)
theorem Tt{G:List (Nat × DV)}{s:List AV}:jC G s [] []:=fun c a _ _ => .nil
theorem LI{G:List (Nat × DV)}{s:List AV}{x:Operand}{v:AV}{xs:List Operand}{vs:List AV}(h:bh G s x v)(k:jC G s xs vs):jC G s (x::xs) (v::vs):=fun c a h3 h4=>VL.cons (h c a h3 h4) (k c a h3 h4)
theorem lT{G:List (Nat × DV)}{s:List AV}{x:Operand}{v:AV}(h:bh G s x v):jC G s [x] [v]:=LI h Tt
theorem qb{G:List (Nat × DV)}{s:List AV}{x y:Operand}{v w:AV}(h:bh G s x v)(k:bh G s y w):jC G s [x,y] [v,w]:=LI h (lT k)
end Go.aA
end
section
namespace Go.Proofs.YtfmdaiojokniiaaGreatDoor.P
open Go Go.aA
theorem lk{α:Type}{f:α->DV}{l:List α}{k:Nat}{x:α}(hx:l[k]?=some x):(l.map f)[((k:Nat):Int).toNat]?=some (f x):=by
 simp[hx]
theorem aH{α:Type}{l:List α}{k:Nat}(h:k<l.length):∃ x,l[k]?=some x:=⟨l[k],by simp[h]⟩
theorem cG{α:Type}{l:List α}{k:Nat}{x:α}(h:l[k]?=some x):l.take (k+1)=l.take k++[x]:=by
 rw[List.take_add_one,h];rfl
def rm(l:List DV)(n:Int)(e:DV):Prop:=0<=n/\l[n.toNat]?=some e
theorem aD{l:List DV}{sz:Nat}{n:Int}{K:DV->Prop}{e:DV}(h:rm l n e)(hs:e.cells.length=sz)(k:K e):sG l sz n K:=eW e h.1 h.2 hs k
theorem aO{α:Type}{f:α->DV}{l:List α}{k:Nat}{x:α}(h:l[k]?=some x):rm (l.map f) (k:Int) (f x):=⟨by omega,lk h⟩
theorem tg{α:Type}{f:α->DV}{l:List α}{x:α}(h:l[0]?=some x):rm (l.map f) 0 (f x):=⟨by omega,by simp[h]⟩
theorem nA{α:Type}{f:α->DV}{l:List α}{k:Nat}{x:α}(h:l[k-1]?=some x)(h0:0<k)(hb:k<=4294967296):rm (l.map f) (IntKind.i64.wrap ((k:Int)-1)) (f x):=by
 have:IntKind.i64.wrap ((k:Int)-1)=((k-1:Nat):Int):=by rw[wrap64 (by omega) (by omega)];omega
 rw[this];exact aO h
theorem at_next{α:Type}{f:α->DV}{l:List α}{k:Nat}{x:α}(h:l[k+1]?=some x)(hb:k<=4294967296):rm (l.map f) (IntKind.i64.wrap ((k:Int)+1)) (f x):=by
 have:IntKind.i64.wrap ((k:Int)+1)=((k+1:Nat):Int):=by rw[wrap64 (by omega) (by omega)];omega
 rw[this];exact aO h
theorem dV{l:Text}(h:Nm.valid l=true):l.length<=60:=by
 simp only[Nm.valid,Bool.or_eq_true,decide_eq_true_eq,aft]at h;rcases h with rfl|h
 ·simp
 ·exact h.1
theorem Tu{a b:Prop}(k:b)(h:a:=by first|with_reducible rfl|exact congrArg (DV.int .i64) (by omega)|exact congrArg (DV.int .i64) (wrap64 (by omega) (by omega))|exact congrArg (DV.int .i64) ((wrap64 (by omega) (by omega)).trans (by omega))):a/\b:=⟨h,k⟩
theorem Gp{P:Prop}(h:P:=by(conv=>whnf);repeat (first|exact trivial|(refine Tu ?_;conv=>whnf))):P:=h
theorem LJ{α:Type}[DecidableEq α]:∀ {l U:List α},l.Nodup->(∀ x∈l,x∈U)->l.length<=U.length
 |[],_,_,_=>by simp
 |x::l,U,h,hs=>by
  rw[List.nodup_cons]at h;have h1:=LJ (U:=U.erase x) h.2 fun y hy=>by
   have:y≠x:=fun e=>h.1 (e ▸ hy);exact(List.mem_erase_of_ne this).2 (hs y (aeR _ hy))
  have h2:=List.length_erase_of_mem (hs x (aeQ ..));have h3:=List.length_pos_of_mem (hs x (aeQ ..));simp;omega
end Go.Proofs.YtfmdaiojokniiaaGreatDoor.P
end
section
namespace Go.Proofs.YtfmdaiojokniiaaGreatDoor.P
open Go Go.aA
set_option maxRecDepth 100000
set_option maxHeartbeats 4000000
theorem CD{t:Text}{k:Nat}(hk:k<t.length)(h:¬ Nm.p0 t k=true):Nm.label t=false:=by
 simp only[Nm.label,decide_eq_false_iff_not];exact fun e=>h (e.2.2 k hk)
theorem CE{t:Text}{k:Nat}{c:UInt8}(hc:t[k]?=some c):Nm.p0 t k=true↔(97<=c.toNat/\c.toNat<=122)\/(48<=c.toNat/\c.toNat<=57)\/(c.toNat=45/\0<k/\k+1<t.length):=by
 have:c=45↔c.toNat=45:=⟨fun e=>by rw[e];rfl,fun e=>UInt8.toNat_inj.1 e⟩;simp[Nm.p0,hc,Nm.Gi,this,or_assoc,and_assoc]
theorem Tv(t:Text)(ht:t.length<=maxLen):ar E 147 [.str t] (· = .bool (Nm.label t)):=by
 unfold maxLen at ht;refine eP F147 ?_;refine J.loop (κ:=Nat) (rg 2 44) (fun k=>[(3,.d (.int .i64 k))]) (fun _=>[]) (fun k=>k<=t.length/\∀ i,i<k->Nm.p0 t i=true) (fun k=>t.length-k) 0 ⟨afv _,by omega⟩ ?_ ?_
 ·exact sZ
 rintro k ⟨hk,aL⟩ IH;refine J.head ag F147 2000 ?_;(conv=>whnf);refine ai (fun h5=>?_) (fun h5=>?_)
 ·have ah:k<t.length:=by simpa using h5
  obtain⟨c,hc⟩:=aH ah;have th:=CE hc;have back:Nm.p0 t k=true->_:=fun e=>IH (k+1) ⟨ah,fun i hi=>(ahh.1 hi).elim (aL i) (fun h=>h ▸ e)⟩ (by omega);have hw:IntKind.i64.wrap ((t.length:Int)-1)=(t.length:Int)-1:=wrap64 (by omega) (by omega);refine gO F147 ?_;refine kX c (by omega) (by rw[afr];exact hc) ?_;repeat' (first|with_reducible(first|refine cY ?_|refine cN ?_|refine ai (fun _=>?_) (fun _=>?_))|refine gA F147 ?_|refine gB ?_|with_reducible rfl)
  all_goals try (refine J.run ag F147 2000 ?_;conv=>whnf)
  all_goals simp only[decide_eq_true_eq,decide_eq_false_iff_not,beq_iff_eq,beq_eq_false_iff_ne,Bool.not_eq_true',Bool.not_eq_false',hw]at *
  all_goals first
   |(rw[CD ah (by rw[th];omega)];done)
   |(refine J.back (back (by rw[th];omega)) ?_;exact Gp)
 ·have aC:k=t.length:=by have:=of_decide_eq_false h5;omega
  subst aC;refine gO F147 ?_;have e:Nm.label t=decide (1<=t.length/\t.length<=12):=by
   simp only[Nm.label];exact decide_eq_decide.2 ⟨fun h=>⟨h.1,h.2.1⟩,fun h=>⟨h.1,h.2,aL⟩⟩
  rw[e];repeat' (first|with_reducible(first|refine cY ?_|refine cN ?_|refine ai (fun _=>?_) (fun _=>?_))|refine gA F147 ?_|refine gB ?_|with_reducible rfl)
  all_goals (refine congrArg DV.bool ?_;rw[ahf];simp_all<;>omega)
theorem Tx{t:Text}{k:Nat}{c:UInt8}(hc:t[k]?=some c)(h:c=46):Nm.split (t.take (k+1))=Nm.split (t.take k)++[[]]:=by
 rw[cG hc,h,Nm.Tj]
theorem Ty{t:Text}{k:Nat}{c:UInt8}(hc:t[k]?=some c)(h:c≠46){i:List Text}{x:Text}(e:Nm.split (t.take k)=i++[x]):Nm.split (t.take (k+1))=i++[x++[c]]:=by
 obtain⟨j,y,h1,h2⟩:=Nm.Tk (t.take k) c h;rw[e]at h1;obtain⟨rfl,h3⟩:=List.append_inj' h1 rfl;cases h3;rw[cG hc,h2]
theorem Gq(t:Text):(Nm.split t).length<=t.length+1:=by
 induction t with
 |nil=>simp[Nm.split]
 |cons c r ih =>
  by_cases hc:c=46
  ·subst hc;simp[Nm.split];omega
  ·obtain⟨x,u,h1,h2⟩:=Nm.pZ c r hc;rw[h2];rw[h1]at ih;simp at ih ⊢;omega
theorem LK(t:Text):∀ x∈Nm.split t,x.length<=t.length:=by
 induction t with
 |nil=>simp[Nm.split]
 |cons c r ih =>
  intro x hx;by_cases hc:c=46
  ·subst hc;simp only[Nm.split,if_true]at hx;rcases afu.1 hx with rfl|hx
   ·simp
   ·have:=ih x hx;simp;omega
  ·obtain⟨y,u,h1,h2⟩:=Nm.pZ c r hc;rw[h2]at hx;rw[h1]at ih;rcases afu.1 hx with rfl|hx
   ·have:=ih y (aeQ ..);simp;omega
   ·have:=ih x (aeR _ hx);simp;omega
theorem Gr(t:Text)(ht:t.length<=1000):ar E 136 [.str t] (· = .sl ((Nm.split t).map .str)):=by
 refine ar.run ag (fn:=Tryz.f136) Tryz.func136 (body:=Tryz.f136.body.getD .skip) rfl (by decide) 6 ?_;(conv=>whnf);refine J.ra ag rfl ?_;refine gO F136 ?_;refine J.loop (κ:=Nat) ([3,4]++rg 6 30) (fun k=>[(4,.d (.int .i64 k)),(3,.own 0 1)]) (fun k=>[(0,.arr 1 (9,1) ((Nm.split (t.take k)).map .str))]) (fun k=>k<=t.length) (fun k=>t.length-k) 0 (afv _) ?_ ?_
 ·refine sY ?_
  refine And.intro (by simp[Nm.split]) ?_;exact sZ
 ·intro k hk IH;have hlen:=Gq (t.take k);rw[List.length_take]at hlen;refine J.head ag F136 2000 ?_;(conv=>whnf);refine ai (fun h1=>?_) (fun h1=>?_)
  ·have ah:k<t.length:=by simpa using h1
   obtain⟨c,hc⟩:=aH ah;refine gO F136 ?_;refine kX c (by omega) (by rw[afr];exact hc) ?_;refine gO F136 ?_;refine ai (fun h2=>?_) (fun h2=>?_)
   ·have Gs:c=46:=by
     have:(c.toNat:Int)=46:=by simpa using h2
     exact UInt8.toNat_inj.1 (by simp;omega)
    refine gO F136 ?_;refine aW ⟨by simp;omega,by simp[DV.cells]⟩ ?_;refine gO F136 ?_;refine J.back (IH (k+1) (by omega) (by omega)) ?_;refine sY ?_
    refine And.intro (by rw[Tx hc Gs];simp) ?_;exact sZ
   ·have Gs:c≠46:=by rintro rfl;simp at h2
    obtain⟨i,x,e1⟩:∃ i x,Nm.split (t.take k)=i++[x]:=⟨_,_,(List.dropLast_concat_getLast (Nm.oy _)).symm⟩;have bg:=Ty hc Gs e1;rw[e1]at hlen ⊢;have hw:IntKind.i64.wrap ((((i++[x]).map DV.str).length:Int)-1)=(i.length:Int):=by
     rw[wrap64 (by simp) (by simp;simp at hlen;omega)];simp
    refine gO F136 ?_;refine dU ?_;rw[hw];have dW:((i++[x]).map DV.str)[((i.length:Nat):Int).toNat]?=some (.str x):=by simp
    have Tz:(List.drop (Int.toNat (k:Int)) (List.take (IntKind.i64.wrap ((k:Int)+1)).toNat t))=[c]:=by
     rw[wrap64 (by omega) (by omega),show((k:Int)+1).toNat=k+1 by omega,afr,cG hc];simp[Nat.min_eq_left (Nat.le_of_lt ah)]
    refine aW ⟨by omega,by simp;omega⟩ ?_;refine gD ?_;refine eW (.str x) (by omega) dW rfl ?_;refine gD ?_;have dm:IntKind.i64.wrap ((k:Int)+1)=(k:Int)+1:=wrap64 (by omega) (by omega);refine aW ⟨by simp,by simp[dm];omega,by simp[dm];omega⟩ ?_;refine gD ?_;have gS:x.length<=1000:=by
     have:=LK (t.take k) x (by rw[e1];simp);simp at this;omega
    simp only[Option.getD_some];rw[Tz];refine aW (by simp;omega) ?_;refine gD ?_;refine aW ⟨by omega,by simp;omega⟩ ?_;refine gD ?_;refine eW (.str x) (by omega) dW rfl ?_;refine gD ?_;refine And.intro (by kernel_rfl) ?_;(conv=>whnf);refine gO F136 ?_;refine J.back (IH (k+1) (by omega) (by omega)) ?_;refine sY ?_
    refine And.intro (by rw[bg];simp[List.set_append_right]) ?_;exact sZ
  ·have aC:k=t.length:=by simp at h1;omega
   subst aC;refine gO F136 ?_;simp
theorem z8(t:Text)(ht:t.length<=1000):ar E 67 [.str t] (· = .sl ((Nm.labels t).map .str)):=by
 refine ar.norm ?_;refine eP Tryz.func67 ?_;repeat' (first|with_reducible(first|refine aq (Gr _ ht) ?_|refine ax (Gr _ ht) ?_|refine cY ?_|refine cN ?_|refine ai (fun _=>?_) (fun _=>?_))|refine gA Tryz.func67 ?_|refine gB ?_|with_reducible rfl)
 all_goals simp_all[Nm.labels,norm]
theorem CF(t:Text):(Nm.labels t).length<=t.length+1:=by
 unfold Nm.labels;split
 ·simp
 ·exact Gq t
def Nm.mF(s z:Text):Bool:=Nm.valid s&&Nm.valid z&&Nm.under s z
theorem Aa(s z:Text)(hs:s.length<=1000)(hz:z.length<=1000):ar E 66 [.str s,.str z] (· = .bool (Nm.under s z)):=by
 have si:=CF s;have oQ:=CF z;unfold Nm.under;refine eP F66 ?_
 with_reducible refine aq (z8 _ hs) ?_
 refine gO F66 ?_
 with_reducible refine aq (z8 _ hz) ?_
 refine gO F66 ?_;generalize Nm.labels s=l at *;generalize Nm.labels z=m at *;refine ai (fun h3=>?_) (fun h3=>?_)
 ·refine gO F66 ?_;simp at h3;rw[decide_eq_false];exact fun h=>by have:=h.length_le;omega
 ·have hle:m.length<=l.length:=by simp at h3;omega
  have e:decide (m <:+ l)=decide (m=l.drop (l.length-m.length)):=decide_eq_decide.2 ⟨ahi.1,ahi.2⟩;rw[e];refine gO F66 ?_;refine J.loop (κ:=Nat) ([4,7]++rg 17 21) (fun k=>[(7,.d (.int .i64 k))]) (fun _=>[]) (fun k=>k<=m.length/\m.take k=(l.drop (l.length-m.length)).take k) (fun k=>m.length-k) 0 ⟨afv _,rfl⟩ ?_ ?_
  ·exact sZ
  rintro k ⟨hk,aL⟩ IH;refine J.head ag F66 2000 ?_;(conv=>whnf);refine ai (fun h5=>?_) (fun h5=>?_)
  ·have ah:k<m.length:=by simpa using h5
   obtain⟨x,hx⟩:=aH ah;obtain⟨y,hy⟩:=aH (l:=l) (k:=l.length-m.length+k) (by omega);have Gt:(l.drop (l.length-m.length))[k]?=some y:=by rw[List.getElem?_drop];exact hy
   have hw:IntKind.i64.wrap (IntKind.i64.wrap ((l.length:Int)-m.length)+k)=((l.length-m.length+k:Nat):Int):=by rw[wrap64 (n:=(l.length:Int)-m.length) (by omega) (by omega),wrap64 (by omega) (by omega)];omega
   refine gO F66 ?_;refine dU ?_;refine aD (e := .str y) (by rw[aff,aff,hw];exact aO hy) rfl ?_;refine gD ?_;refine aD (e := .str x) (aO hx) rfl ?_;refine gD ?_;refine gO F66 ?_;by_cases jO:x=y
   ·refine aU (by simp[jO]) ?_;refine gO F66 ?_;refine J.back (IH (k+1) ⟨ah,by rw[cG hx,cG Gt,aL,jO]⟩ (by omega)) ?_;exact sZ
   ·refine aY (by simpa using fun h=>jO h.symm) ?_;refine gO F66 ?_;rw[decide_eq_false];intro h;rw[<- h,hx]at Gt;exact jO (Option.some.inj Gt)
  ·have aC:k=m.length:=by simp at h5;omega
   subst aC;refine gO F66 ?_;rw[ahj,List.take_of_length_le (by simp;omega)]at aL;rw[decide_eq_true aL]
def gT(i:Nat)(x:Text):Bool:=Nm.label x||(decide (i=0)&&decide (x=[42]))
theorem rp{L:List Text}:Nm.parts L=true↔L.length<=8/\∀ i x,L[i]?=some x->gT i x=true:=by
 cases L with
 |nil=>simp[Nm.parts]
 |cons a r =>
  simp only[Nm.parts,aft,decide_eq_true_eq,List.all_eq_true];constructor
  ·rintro⟨h1,h2,h3⟩;refine⟨h1,fun i x hx=>?_⟩;cases i with
   |zero=>simp at hx;subst hx;simpa [gT]using h2
   |succ i=>simp at hx;simp[gT,h3 x (afh hx)]
  ·rintro⟨h1,h2⟩;refine⟨h1,by simpa [gT]using h2 0 a rfl,fun x hx=>?_⟩;obtain⟨i,hi⟩:=List.getElem?_of_mem hx
   simpa [gT]using h2 (i+1) x (by simpa using hi)
theorem eO(t:Text)(ht:t.length<=maxLen):ar E 77 [.str t] (· = .bool (Nm.valid t)):=by
 unfold maxLen at ht;refine eP F77 ?_;refine ai (fun h1=>?_) (fun h1=>?_)
 ·refine gO F77 ?_;have e:t=[46]:=by simpa using h1
  subst e;rfl
 have h1:t≠[46]:=by simpa using h1
 refine gO F77 ?_;refine ai (fun h2=>?_) (fun h2=>?_)
 ·refine gO F77 ?_;simp at h2;simp[Nm.valid,h1];omega
 have h2:t.length<=60:=by simp at h2;omega
 have hv:Nm.valid t=Nm.parts (Nm.split t):=by simp[Nm.valid,h1,h2]
 have c1:=Gr t (by omega);have hm:=LK t;have hl:=Gq t;rw[hv];generalize Nm.split t=l at *;refine gO F77 ?_;refine aq (c1) ?_;refine gO F77 ?_;refine J.loop (κ:=Nat) ([2,4,5]++rg 13 24) (fun k=>[(4,.d (.int .i64 k))]) (fun _=>[]) (fun k=>k<=l.length/\∀ i x,i<k->l[i]?=some x->gT i x=true) (fun k=>l.length-k) 0 ⟨afv _,by omega⟩ ?_ ?_
 ·exact sZ
 rintro k ⟨hk,aL⟩ IH;refine J.head ag F77 2000 ?_;(conv=>whnf);refine ai (fun h5=>?_) (fun h5=>?_)
 ·have ah:k<l.length:=by simpa using h5
  obtain⟨x,hx⟩:=aH ah;have no:¬ gT k x=true->Nm.parts l=false:=fun h=>by
   rw[<- Bool.not_eq_true,rp];exact fun e=>h (e.2 k x hx)
  have back:gT k x=true->_:=fun e=>IH (k+1) ⟨ah,fun i y hi hy=>(ahh.1 hi).elim (fun h=>aL i y h hy) (fun h=>by subst h;rw[hx]at hy;cases hy;exact e)⟩ (by omega);have c2:=Tv x (by have:=hm x (afh hx);unfold maxLen;omega);unfold gT at no back;refine gO F77 ?_;repeat' (first|with_reducible(first|refine aD ((aO hx)) rfl ?_|refine aq (c2) ?_|refine ax (c2) ?_|refine cY ?_|refine cN ?_|refine ai (fun _=>?_) (fun _=>?_))|refine gA F77 ?_|refine gB ?_|with_reducible rfl)
  all_goals try (refine J.run ag F77 2000 ?_;conv=>whnf)
  all_goals first
   |(rw[no (by simp_all;try omega)];done)
   |(refine J.back (back (by simp_all;try omega)) ?_;exact Gp)
 ·have aC:k=l.length:=by simp at h5;omega
  subst aC;have e:Nm.parts l=decide (l.length<=8):=by
   rw[ahf,rp,decide_eq_true_eq];exact⟨And.left,fun h=>⟨h,fun i x hx=>aL i x (aX hx) hx⟩⟩
  rw[e];refine gO F77 ?_;simp;omega
theorem jg(t:Text)(ht:t.length<=maxLen):ar E 206 [.str t] (· = .bool (Nm.iu t)):=by
 cases t with
 |nil =>
  refine eP Tryz.func206 ?_;refine aU (by decide) ?_;refine gO Tryz.func206 ?_;rfl
 |cons c r =>
  have e:((c.toNat:Int)==42)=(c==42):=by
   rw[ahf,beq_iff_eq,beq_iff_eq];exact⟨fun h=>UInt8.toNat_inj.1 (Int.ofNat.inj h),fun h=>h ▸ rfl⟩
  refine eP Tryz.func206 ?_;refine aY (by simp) ?_;refine gO Tryz.func206 ?_;refine kX c (by omega) rfl ?_;refine gO Tryz.func206 ?_;rw[e];rfl
end Go.Proofs.YtfmdaiojokniiaaGreatDoor.P
end
section
namespace Go.aA
open Go Go.RowKit
set_option maxHeartbeats 1000000
theorem T0{bad:Nat->Prop}{w:World}{z:List DV}{v:Value}(hv:VD bad w (.sl z) v):∃ a cap,v=.slice a z.length cap/\z.length<=cap/\VD bad w (.sl z) (.slice a z.length z.length):=by
 cases hv with
 |slnil=>exact⟨none,0,rfl,aed _,.slnil⟩
 |jX a=>exact⟨some a,0,rfl,aed _,.jX a⟩
 |sl _ blk off cap sz f h1 h2 h3 h4 h5 h6 h7=>exact⟨_,cap,rfl,h3,.sl _ blk off z.length sz f h1 h2 (aed _) h4 h5 h6 h7⟩
theorem J.slice3{E:Env}{s:List AV}{h:List af}(hE:E.OK){aj:FuncId}{R:cF}{lits:List Nat}{ops:Array Oper}{o:Oper}{l:List Oper}{r:List aT}{t e:Nat}{ti ei:bu}{x y u m:Operand}{z:List DV}{j j1 j2:IntKind}{n:Nat}(hg:o.guard=none)
  (cn:o.op=.slice t x (some y) (some u) (some m)) (hi:E.T[t]?=some ti) (hk:ti.k=.slice e) (bV:E.T[e]?=some ei) (hv:bh E.G s x (.d (.sl z))) (hy:bh E.G s y (.d (.int j n))) (hu:bh E.G s u (.d (.int j1 z.length))) (hm:bh E.G s m (.d (.int j2 z.length))) (hn:n<=z.length) (bR:∀ e∈z,e.cells.length=ei.size)
  (H:cg s o.dst (.d (.sl (z.drop n))) fun s'=>J E aj R lits (.bw ops l::r) s' h):J E aj R lits (.bw ops (o::l)::r) s h:=by
 have ho:bz E o.op s h (.d (.sl (z.drop n))) h:=by
  rw[cn];refine .quiet fun o c ac e1 h2 h3 h4=>?_;subst h2;obtain⟨mz,d,g1,g2,g3,-⟩:=cC (hE.types t ti hi);obtain rfl:=lF (hk.symm.trans g3);have hv:=hv c ac h3 h4;generalize EX:ac.eval x=v at hv;cases hv with
  |d _ _ hv =>
   obtain⟨a,cap,rfl,jB,hd⟩:=T0 hv;obtain⟨a',gZ,e2,-,hd⟩:=JW hd (lo:=n) (hi:=z.length) hn (aed _) bR;cases e2;rw[ahj]at hd;refine⟨_,?_,.d _ _ hd⟩;have e3:=ef (hy c ac h3 h4);have e4:=ef (hu c ac h3 h4);have e5:=ef (hm c ac h3 h4);have b1:=run_sliceBound (P:=E.P) c.w j2 z.length cap .slice3Acap (by omega) (by omega);have b2:=run_sliceBound (P:=E.P) c.w j1 z.length z.length .slice3B (by omega) (by omega);have b3:=run_sliceBound (P:=E.P) c.w j n z.length .slice3C (by omega) (by omega);simp only[afr]at b1 b2 b3;simp only[execOp,e1,EX,e3,e4,e5,Instr.sliceAt,Instr.slice,Instr.sliceBounds,Sem.run_bind,Sem.run_pure,Result.andThen_ok,run_underlying g2,aeT,Option.isSome_some,if_true,b1,b2,b3,run_sizeOf (hE.types e ei bV)]
 rw[dX]at H;exact .of (.op (gb hg) ho H.to)
end Go.aA
end
section
namespace Go.Proofs.YtfmdaiojokniiaaGreatDoor.P
open Go Go.aA Go.Sort Go.RowKit
def mS(x:Int × Int):List Value:=[.int .i64 x.1,.int .i64 x.2]
def kI(x:Int × Int):DV := .agg [.int .i64 x.1,.int .i64 x.2]
def NX(P:Program)(f g:Nat)(key:Int × Int->Int):Prop:=∀ (blk cap:Nat) (d:Array (Int × Int)) (w:World),HoldsK mS 2 w blk 0 d->blk<w.heap.size->d.size<4611686018427387904 ->
 Calls P f #[.slice (some ⟨blk,0,none⟩) d.size cap,.func (.func g) #[] #[]] w fun e w'=>e=.returned (.tuple #[])/\∃ d' n os,PermIn 0 d.size d d'/\SortedIn (ltOf fun x y:Int × Int=>Lib.compareInt (key x) (key y)) 0 d.size d'/\w'=sortWorldK mS 2 w blk 0 n d' os
theorem Dt(key:Int × Int->Int)(x y:Int × Int):ltOf (fun x y:Int × Int=>Lib.compareInt (key x) (key y)) x y=decide (key x<key y):=by
 unfold ltOf Lib.compareInt;by_cases h1:key x<key y
 ·simp[h1]
 ·by_cases h2:key y<key x<;>simp[h1,h2]
theorem W4(key:Int × Int->Int):SWO (ltOf fun x y:Int × Int=>Lib.compareInt (key x) (key y)) where
 irrefl x:=by rw[Dt];simp
 trans x y z h1 h2:=by rw[Dt]at *;simp at *;omega
 ntrans x y z h1 h2:=by rw[Dt]at *;simp at *;omega
theorem NY(d:Array (Int × Int))(i:Nat)(x:Int × Int)(h:d[i]?=some x):(flatK mS 2 d)[i*2]! = .int .i64 x.1/\(flatK mS 2 d)[i*2+1]! = .int .i64 x.2:=by
 have hi:i<d.size:=by
  rcases adV i d.size with h'|h'
  ·exact h'
  ·rw[ahg h']at h;cases h
 have hx:d[i]! = x:=by simp[getElem!_pos d i hi];rw[aev hi]at h;exact Option.some.inj h
 constructor
 ·rw[get_flatK _ _ _ _ (by omega),show i*2 / 2=i by omega,show i*2 % 2=0 by omega,hx];rfl
 ·rw[get_flatK _ _ _ _ (by omega),show(i*2+1) / 2=i by omega,show(i*2+1) % 2=1 by omega,hx];rfl
theorem W5{w:World}{blk n:Nat}{d:Array (Int × Int)}{os:Array Obj}{vs:Array Value}{ty:TypeId}(hb:w.heap[blk]?=some (.cells vs ty (0,0))) :
  let w':=sortWorldK mS 2 w blk 0 n d os
  w'.os=w.os/\w'.tape=w.tape/\w'.output=w.output/\w.heap.size<=w'.heap.size/\(∀ b,b<w.heap.size->b≠blk->w'.heap[b]?=w.heap[b]?)/\w'.heap[blk]?=some (.cells (putCells id 0 (flatK mS 2 d) vs) ty (0,0)):=by
 intro w';have ah:blk<w.heap.size:=by
  rcases adV blk w.heap.size with h|h
  ·exact h
  ·rw[ahg h]at hb;cases hb
 have bR:(putRowK mS 2 (Sort.ahead w n) blk 0 d).heap.size=w.heap.size:=by simp[putRowK,putRow,mapBlock]
 refine⟨rfl,rfl,rfl,?_,fun b cw aJ=>?_,?_⟩
 ·show w.heap.size<=(grow _ os).heap.size;rw[size_grow,bR];omega
 ·show(grow _ os).heap[b]?=_;rw[heap_grow_old _ _ (by rw[bR];exact cw)];simp[putRowK,putRow,mapBlock,aes,Ne.symm aJ]
 ·show(grow _ os).heap[blk]?=_;rw[heap_grow_old _ _ (by rw[bR];exact ah)];simp[putRowK,putRow,mapBlock,aes,hb,onCells]
theorem HP{bad:Nat->Prop}{w:World}{k:IntKind}{n:Int}{v:Value}(h:VD bad w (.int k n) v):v=.int k n:=by cases h;rfl
theorem W7{E:Env}{f g:FuncId}{key:Int × Int->Int}{t:Nat}(hS:NX E.P f g key)(fo:lH E.P f)(l:List (Int × Int))(hl:l≠[])(hlen:l.length<4611686018427387904) :
  aw E f [.arr 0 (t,2) (l.map kI)] [.own 0 0,.fn (.func g) [] []] (fun a b=>a=.aF []/\∃ l':List (Int × Int),l'.Perm l/\l'.Pairwise (fun x y=>key x<=key y)/\b=[.arr 0 (t,2) (l'.map kI)]):=by
 unfold aw;refine⟨fo,kn rfl,fun c vs h1 h2 h3=>?_⟩;obtain⟨v1,v2,rfl⟩:∃ v1 v2,vs=[v1,v2]:=by
  have:=h3.1
  match vs,this with
  |[a,b],_=>exact⟨a,b,rfl⟩
 have lg:=h3.2 0 _ v1 rfl rfl;have mC:=h3.2 1 _ v2 rfl rfl;have dx:c.heap[0]?=some (.arr 0 (t,2) (l.map kI)):=by rw[h1];rfl
 obtain⟨u1,u2,rfl,e2,e3⟩:=mr mC;obtain rfl:u1=[]:=aee (by have:=e2.1;simpa using this.symm);obtain rfl:u2=[]:=aee (by have:=e3.1;simpa using this.symm);rcases kW dx lg with⟨blk,cap,r1,rfl⟩|⟨nB,-,-⟩
 case inr=>exact absurd (ahk.1 nB) hl
 obtain⟨q0,q1,q2⟩:=h2.box 0 _ dx;rcases q2 with⟨q2,-⟩|⟨iX,gZ,vs',q2,q3,q4,q5,q6,q7⟩
 ·rw[r1]at q2;cases q2
 rw[r1]at q2;cases q2;simp only at q3 q4 q7;have dO:∀ (i:Nat) (x:Int × Int),l[i]?=some x->vs'[i*2]?=some (.int .i64 x.1)/\vs'[i*2+1]?=some (.int .i64 x.2):=fun i x hx=>by
  have he:(l.map kI)[i]?=some (kI x):=by simp[hx]
  obtain⟨v,a1,a2,a3⟩:=q7 i 0 (kI x) (.int .i64 x.1) he rfl;obtain⟨v',b1,b2,b3⟩:=q7 i 1 (kI x) (.int .i64 x.2) he rfl;rw[HP a3]at a1;rw[HP b3]at b1;exact⟨a1,b1⟩
 have jG:l.toArray.size=l.length:=by simp
 have hH:HoldsK mS 2 c.w blk 0 l.toArray:=by
  intro j hj;simp only[size_flatK,jG]at hj;obtain⟨x,hx⟩:∃ x,l[j / 2]?=some x:=⟨l[j / 2]'(by omega),by rw[afo]⟩;have eh:l.toArray[j / 2]?=some x:=by simpa using hx
  obtain⟨f1,f2⟩:=NY l.toArray (j / 2) x eh;obtain⟨c1,c2⟩:=dO (j / 2) x hx;refine⟨?_,by simp[World.frozen?,q3]⟩;rcases Nat.mod_two_eq_zero_or_one j with hm|hm
  ·have ej:j / 2*2=j:=by omega
   rw[ej]at f1 c1;show _=some ((flatK mS 2 l.toArray)[j]!);rw[f1];exact mf q3 _ _ (by simpa using c1)
  ·have ej:j / 2*2+1=j:=by omega
   rw[ej]at f2 c2;show _=some ((flatK mS 2 l.toArray)[j]!);rw[f2];exact mf q3 _ _ (by simpa using c2)
 have hblk:=(h2.bB 0 blk cap r1).1;have je:=hS blk cap l.toArray c.w hH hblk (by rw[jG];exact hlen);rw[jG]at je;have kf:([Value.slice (some ⟨blk,0,none⟩) (l.map kI).length cap,.func (.func g) ([]:List Value).toArray ([]:List Value).toArray]:List Value).toArray = #[.slice (some ⟨blk,0,none⟩) l.length cap,.func (.func g) #[] #[]]:=by simp
 rw[kf];refine je.mono fun e w' ⟨he,d',n,os,hp,hs,hw⟩=>?_;subst he;obtain⟨p1,-,p3⟩:=hp;have fy:d'.size=l.length:=by rw[p1,jG]
 have rP:d'.toList.Perm l:=by
  have ex:∀ (a:Array (Int × Int)),a.size=l.length->(a.extract 0 l.length).toList=a.toList:=fun a ha=>by rw[<- ha,Array.extract_size]
  rw[ex d' fy,ex l.toArray jG]at p3
  simpa using p3
 have W8:d'.toList.Pairwise (fun x y=>key x<=key y):=by
  refine List.pairwise_iff_getElem.2 fun i j hi hj dY=>?_;have cj:i<d'.size:=by simpa using hi
  have eU:j<d'.size:=by simpa using hj
  have:=hs i j (afv _) dY (by omega);rw[Dt,decide_eq_false_iff_not,getElem!_pos d' j eU,getElem!_pos d' i cj]at this;simp only[Array.getElem_toList];omega
 obtain⟨a1,a2,a3,a4,a5,a6⟩:=W5 (n:=n) (d:=d') (os:=os) q3;rw[<- hw]at a1 a2 a3 a4 a5 a6
 let c':Cx:={ c with heap:=[.arr 0 (t,2) (d'.toList.map kI)],w:=w' }
 have bZ:∀ i bx,c.heap[i]?=some bx->i=0/\bx=.arr 0 (t,2) (l.map kI):=fun i bx hi=>by
  rw[h1]at hi;cases i with
  |zero=>simp at hi;exact⟨rfl,hi.symm⟩
  |succ i=>simp at hi
 have oV:(d'.toList.map kI).length=(l.map kI).length:=by simp[fy]
 have bg:aA.Step c c':=⟨rfl,h2.bS,a1,a2,a3,a4,fun b hb hn=>a5 b hb (fun e=>by subst e;exact hn 0 cap r1),fun i b n hi _=>⟨n,hi⟩,fun i bx hi=>by
  obtain⟨rfl,rfl⟩:=bZ i bx hi
  exact .inl ⟨0,_,rfl,.inr ⟨rfl,oV,rfl⟩⟩⟩
 have aP:aM E.G c':=h2.next bg (fun i b n hi=>by
   have:=h2.bB i b n hi;refine⟨ad4 this.1 a4,?_⟩;have h0:c.heap.length=1:=by rw[h1];rfl
   show i<1;omega) h2.inj (fun i bx hi=>by
  right;cases i with
  |succ i=>simp[c']at hi
  |zero =>
   simp[c']at hi;subst hi;refine⟨q0,fun i e he=>?_,.inr ⟨blk,cap,_,r1,a6,?_,?_,q6,fun i j e x he hx=>?_⟩⟩
   ·simp only[ad1]at he;cases hq:d'.toList[i]? with
    |none=>rw[hq]at he;cases he
    |some y=>rw[hq]at he;cases he;rfl
   ·simp[putCells,q4]
   ·rw[oV];exact q5
   ·simp only[ad1]at he;cases hq:d'.toList[i]? with
    |none=>rw[hq]at he;cases he
    |some y =>
     rw[hq]at he;cases he;have hi:i<l.length:=by have:=aX hq;simpa [fy]using this
     have BQ:d'[i]?=some y:=by simpa using hq
     obtain⟨f1,f2⟩:=NY d' i y BQ;have eT:vs'.size=cap*2:=q4;have dL:(l.map kI).length=l.length:=by simp
     have kH:l.length<=cap:=by rw[<- dL];exact q5
     have at_:∀ k,k<2->(putCells id 0 (flatK mS 2 d') vs')[i*2+k]?=some ((flatK mS 2 d')[i*2+k]!):=fun k hk=>by
      have h5:i*2+k<vs'.size:=by omega
      simp only[putCells,ahl,aev h5,aeT];rw[if_pos ⟨afv _,by rw[size_flatK,fy];omega⟩];rfl
     match j with
     |0 =>
      simp[kI,DV.cells]at hx;subst hx;exact⟨_,(at_ 0 (by omega)).trans (congrArg some f1),rfl,.int _ _⟩
     |1 =>
      simp[kI,DV.cells]at hx;subst hx;exact⟨_,(at_ 1 (by omega)).trans (congrArg some f2),rfl,.int _ _⟩
     |j+2=>simp[kI,DV.cells]at hx)
 refine⟨c',.aF [],.tuple #[],rfl,rfl,⟨rfl,d'.toList,rP,W8,rfl⟩,.aF [] #[] rfl (fun j x v hx=>by simp at hx),aP,?_⟩
 exact⟨rfl,a1,a2,a3,a4,fun b hb hn=>a5 b hb (fun e=>by subst e;exact hn 0 cap r1),fun i b n hi _=>⟨n,hi⟩,fun i bx hi=>by
  obtain⟨rfl,rfl⟩:=bZ i bx hi
  exact .inl ⟨0,_,rfl,.inr ⟨rfl,oV,rfl⟩⟩⟩
end Go.Proofs.YtfmdaiojokniiaaGreatDoor.P
end
section
namespace Go.Proofs
open Go.Shelf
def Tryz.W9:Go.Shelf.Ren:=⟨fun|5=>101|7=>176|n=>n,fun|22=>3|3=>3|4=>4|n=>n,fun|n=>n⟩
theorem Tryz.Xa:Go.Proofs.SlLaysC2.n5 Tryz.prog Tryz.W9:={
 mixed:=by kernel_rfl
 f5:=⟨Tryz.f101.name,by decide,Tryz.func101.trans (congrArg some (by kernel_rfl))⟩
 f7:=⟨Tryz.f176.name,by decide,Tryz.func176.trans (congrArg some (by kernel_rfl))⟩
 t3:=Tryz.underlying3
 a3:=Tryz.isAgg3
 z3:=Tryz.sizeOf3
 v3:=Tryz.zeroValue3
 t4:=Tryz.underlying4
 a4:=Tryz.isAgg4
 z4:=Tryz.sizeOf4
 v4:=Tryz.zeroValue4
 t22:=Tryz.underlying3
 a22:=Tryz.isAgg3
 z22:=Tryz.sizeOf3
 v22:=Tryz.zeroValue3 }
def Tryz.Xb:Go.Shelf.Ren:=⟨fun|6=>99|15=>153|14=>175|28=>231|29=>232|20=>247|21=>248|22=>249|23=>250|24=>251|25=>252|26=>253|27=>254|46=>299|47=>283|48=>284|49=>300|50=>301|57=>342|n=>n,fun|22=>167|24=>169|25=>172|3=>3|39=>224|0=>0|53=>290|55=>188|4=>4|46=>283|45=>282|50=>287|5=>5|9=>9|66=>330|70=>334|76=>362|77=>363|n=>n,fun|n=>n⟩
theorem Tryz.Xc:Go.Proofs.SlLaysF0.n6 Tryz.prog Tryz.Xb:={
 mixed:=by kernel_rfl
 f6:=⟨Tryz.f99.name,by decide,Tryz.func99.trans (congrArg some (by kernel_rfl))⟩
 f14:=⟨Tryz.f175.name,by decide,Tryz.func175.trans (congrArg some (by kernel_rfl))⟩
 f15:=Tryz.func153.trans (congrArg some (by kernel_rfl))
 f20:=⟨Tryz.f247.name,by decide,Tryz.func247.trans (congrArg some (by kernel_rfl))⟩
 f21:=⟨Tryz.f248.name,by decide,Tryz.func248.trans (congrArg some (by kernel_rfl))⟩
 f22:=⟨Tryz.f249.name,by decide,Tryz.func249.trans (congrArg some (by kernel_rfl))⟩
 f23:=⟨Tryz.f250.name,by decide,Tryz.func250.trans (congrArg some (by kernel_rfl))⟩
 f24:=⟨Tryz.f251.name,by decide,Tryz.func251.trans (congrArg some (by kernel_rfl))⟩
 f25:=⟨Tryz.f252.name,by decide,Tryz.func252.trans (congrArg some (by kernel_rfl))⟩
 f26:=⟨Tryz.f253.name,by decide,Tryz.func253.trans (congrArg some (by kernel_rfl))⟩
 f27:=⟨Tryz.f254.name,by decide,Tryz.func254.trans (congrArg some (by kernel_rfl))⟩
 f28:=Tryz.func231.trans (congrArg some (by kernel_rfl))
 f29:=Tryz.func232.trans (congrArg some (by kernel_rfl))
 f46:=⟨Tryz.f299.name,by decide,Tryz.func299.trans (congrArg some (by kernel_rfl))⟩
 f47:=Tryz.func283.trans (congrArg some (by kernel_rfl))
 f48:=Tryz.func284.trans (congrArg some (by kernel_rfl))
 f49:=⟨Tryz.f300.name,by decide,Tryz.func300.trans (congrArg some (by kernel_rfl))⟩
 f50:=⟨Tryz.f301.name,by decide,Tryz.func301.trans (congrArg some (by kernel_rfl))⟩
 f57:=⟨Tryz.f342.name,by decide,Tryz.func342.trans (congrArg some (by kernel_rfl))⟩
 t0:=Tryz.underlying0
 a0:=Tryz.isAgg0
 z0:=Tryz.sizeOf0
 v0:=Tryz.zeroValue0
 t3:=Tryz.underlying3
 a3:=Tryz.isAgg3
 z3:=Tryz.sizeOf3
 v3:=Tryz.zeroValue3
 t4:=Tryz.underlying4
 a4:=Tryz.isAgg4
 z4:=Tryz.sizeOf4
 v4:=Tryz.zeroValue4
 t5:=Tryz.underlying5
 a5:=Tryz.isAgg5
 z5:=Tryz.sizeOf5
 v5:=Tryz.zeroValue5
 t9:=Tryz.underlying9
 a9:=Tryz.isAgg9
 z9:=Tryz.sizeOf9
 v9:=Tryz.zeroValue9
 t22:=Tryz.underlying167
 a22:=Tryz.isAgg167
 z22:=Tryz.sizeOf167
 v22:=Tryz.zeroValue167
 t25:=Tryz.underlying172
 a25:=Tryz.isAgg172
 z25:=Tryz.sizeOf172
 v25:=Tryz.zeroValue172
 t39:=Tryz.underlying224
 a39:=Tryz.isAgg224
 z39:=Tryz.sizeOf224
 v39:=Tryz.zeroValue224
 t45:=Tryz.underlying282
 a45:=Tryz.isAgg282
 z45:=Tryz.sizeOf282
 v45:=Tryz.zeroValue282
 t46:=Tryz.underlying283
 a46:=Tryz.isAgg283
 z46:=Tryz.sizeOf283
 v46:=Tryz.zeroValue283
 t50:=Tryz.underlying287
 a50:=Tryz.isAgg287
 z50:=Tryz.sizeOf287
 v50:=Tryz.zeroValue287
 t53:=Tryz.underlying290
 a53:=Tryz.isAgg290
 z53:=Tryz.sizeOf290
 v53:=Tryz.zeroValue290
 t55:=Tryz.underlying188
 a55:=Tryz.isAgg188
 z55:=Tryz.sizeOf188
 v55:=Tryz.zeroValue188
 t66:=Tryz.underlying330
 a66:=Tryz.isAgg330
 z66:=Tryz.sizeOf330
 v66:=Tryz.zeroValue330
 t70:=Tryz.underlying334
 a70:=Tryz.isAgg334
 z70:=Tryz.sizeOf334
 v70:=Tryz.zeroValue334
 t76:=Tryz.underlying362
 a76:=Tryz.isAgg362
 z76:=Tryz.sizeOf362
 v76:=Tryz.zeroValue362
 t77:=Tryz.underlying363
 a77:=Tryz.isAgg363
 z77:=Tryz.sizeOf363
 v77:=Tryz.zeroValue363 }
def Tryz.Xd:Go.Shelf.Ren:=⟨fun|5=>182|8=>153|7=>261|19=>231|20=>232|10=>306|11=>307|12=>308|13=>309|14=>310|15=>311|16=>312|17=>313|18=>314|30=>344|31=>283|32=>284|33=>345|34=>346|35=>176|40=>358|n=>n,fun|23=>27|25=>3|3=>3|32=>224|22=>27|0=>0|44=>290|46=>188|4=>4|36=>283|35=>282|41=>287|5=>5|9=>9|53=>330|57=>334|63=>362|64=>363|n=>n,fun|n=>n⟩
theorem Tryz.sortInt:Go.Proofs.SlLaysM.n5 Tryz.prog Tryz.Xd:={
 mixed:=by kernel_rfl
 f5:=⟨Tryz.f182.name,by decide,Tryz.func182.trans (congrArg some (by kernel_rfl))⟩
 f7:=⟨Tryz.f261.name,by decide,Tryz.func261.trans (congrArg some (by kernel_rfl))⟩
 f8:=Tryz.func153.trans (congrArg some (by kernel_rfl))
 f10:=⟨Tryz.f306.name,by decide,Tryz.func306.trans (congrArg some (by kernel_rfl))⟩
 f11:=⟨Tryz.f307.name,by decide,Tryz.func307.trans (congrArg some (by kernel_rfl))⟩
 f12:=⟨Tryz.f308.name,by decide,Tryz.func308.trans (congrArg some (by kernel_rfl))⟩
 f13:=⟨Tryz.f309.name,by decide,Tryz.func309.trans (congrArg some (by kernel_rfl))⟩
 f14:=⟨Tryz.f310.name,by decide,Tryz.func310.trans (congrArg some (by kernel_rfl))⟩
 f15:=⟨Tryz.f311.name,by decide,Tryz.func311.trans (congrArg some (by kernel_rfl))⟩
 f16:=⟨Tryz.f312.name,by decide,Tryz.func312.trans (congrArg some (by kernel_rfl))⟩
 f17:=⟨Tryz.f313.name,by decide,Tryz.func313.trans (congrArg some (by kernel_rfl))⟩
 f18:=⟨Tryz.f314.name,by decide,Tryz.func314.trans (congrArg some (by kernel_rfl))⟩
 f19:=Tryz.func231.trans (congrArg some (by kernel_rfl))
 f20:=Tryz.func232.trans (congrArg some (by kernel_rfl))
 f30:=⟨Tryz.f344.name,by decide,Tryz.func344.trans (congrArg some (by kernel_rfl))⟩
 f31:=Tryz.func283.trans (congrArg some (by kernel_rfl))
 f32:=Tryz.func284.trans (congrArg some (by kernel_rfl))
 f33:=⟨Tryz.f345.name,by decide,Tryz.func345.trans (congrArg some (by kernel_rfl))⟩
 f34:=⟨Tryz.f346.name,by decide,Tryz.func346.trans (congrArg some (by kernel_rfl))⟩
 f35:=⟨Tryz.f176.name,by decide,Tryz.func176.trans (congrArg some (by kernel_rfl))⟩
 f40:=⟨Tryz.f358.name,by decide,Tryz.func358.trans (congrArg some (by kernel_rfl))⟩
 t0:=Tryz.underlying0
 a0:=Tryz.isAgg0
 z0:=Tryz.sizeOf0
 v0:=Tryz.zeroValue0
 t3:=Tryz.underlying3
 a3:=Tryz.isAgg3
 z3:=Tryz.sizeOf3
 v3:=Tryz.zeroValue3
 t4:=Tryz.underlying4
 a4:=Tryz.isAgg4
 z4:=Tryz.sizeOf4
 v4:=Tryz.zeroValue4
 t5:=Tryz.underlying5
 a5:=Tryz.isAgg5
 z5:=Tryz.sizeOf5
 v5:=Tryz.zeroValue5
 t9:=Tryz.underlying9
 a9:=Tryz.isAgg9
 z9:=Tryz.sizeOf9
 v9:=Tryz.zeroValue9
 t22:=Tryz.underlying27
 a22:=Tryz.isAgg27
 z22:=Tryz.sizeOf27
 v22:=Tryz.zeroValue27
 t23:=Tryz.underlying27
 a23:=Tryz.isAgg27
 z23:=Tryz.sizeOf27
 v23:=Tryz.zeroValue27
 t25:=Tryz.underlying3
 a25:=Tryz.isAgg3
 z25:=Tryz.sizeOf3
 v25:=Tryz.zeroValue3
 t32:=Tryz.underlying224
 a32:=Tryz.isAgg224
 z32:=Tryz.sizeOf224
 v32:=Tryz.zeroValue224
 t35:=Tryz.underlying282
 a35:=Tryz.isAgg282
 z35:=Tryz.sizeOf282
 v35:=Tryz.zeroValue282
 t36:=Tryz.underlying283
 a36:=Tryz.isAgg283
 z36:=Tryz.sizeOf283
 v36:=Tryz.zeroValue283
 t41:=Tryz.underlying287
 a41:=Tryz.isAgg287
 z41:=Tryz.sizeOf287
 v41:=Tryz.zeroValue287
 t44:=Tryz.underlying290
 a44:=Tryz.isAgg290
 z44:=Tryz.sizeOf290
 v44:=Tryz.zeroValue290
 t46:=Tryz.underlying188
 a46:=Tryz.isAgg188
 z46:=Tryz.sizeOf188
 v46:=Tryz.zeroValue188
 t53:=Tryz.underlying330
 a53:=Tryz.isAgg330
 z53:=Tryz.sizeOf330
 v53:=Tryz.zeroValue330
 t57:=Tryz.underlying334
 a57:=Tryz.isAgg334
 z57:=Tryz.sizeOf334
 v57:=Tryz.zeroValue334
 t63:=Tryz.underlying362
 a63:=Tryz.isAgg362
 z63:=Tryz.sizeOf362
 v63:=Tryz.zeroValue362
 t64:=Tryz.underlying363
 a64:=Tryz.isAgg363
 z64:=Tryz.sizeOf363
 v64:=Tryz.zeroValue363 }
end Go.Proofs
end
section
namespace Go.Proofs.YtfmdaiojokniiaaGreatDoor.P
open Go Go.aA Go.Sort Go.RowKit
structure Span where
 bL:Int
 upto:Int
 deriving DecidableEq
@[reducible] def Span.enc (x : Span) : DV := .agg [.int .i64 x.bL, .int .i64 x.upto]
set_option maxHeartbeats 1000000 in
theorem Xe(x y:Int × Int)(W:World):Calls Tryz.prog 100 #[.agg #[.int .i64 x.1,.int .i64 x.2],.agg #[.int .i64 y.1,.int .i64 y.2]] W fun e w'=>e=.returned (.int .i64 (Lib.compareInt x.1 y.1))/\∃ q Xf,w'=grow (W.drewN q) Xf:=by
 have AH:=fun W'=>AnyG.cmp_Compare_int Tryz.Xa x.1 y.1 W';change ∀ W',Calls Tryz.prog 101 _ _ _ at AH;generalize Lib.compareInt x.1 y.1=r at AH ⊢
 go_enter Tryz.func100,Tryz.ntmps100
 go_wp2_with (go_at_call 101;refine(AH _).mono ?_;rintro e w' ⟨rfl,rfl⟩)
 go_ret
 exact⟨rfl,0,_,by rw[alloc_eq_grow,alloc_eq_grow,grow_grow];rfl⟩
theorem Xg:NX Tryz.prog 99 100 (·.1):=fun blk cap d w hH hblk bR=>by
 have eg:∀ args w,(callFunc 100 args).run Tryz.prog w=.ok (.enter 100 args) w:=enters_of Tryz.func100 (by kernel_rfl) rfl;have AH:=AnyQ.slices_SortFunc Tryz.Xc 2 Tryz.isAgg169 Tryz.sizeOf169 mS (fun _=>rfl) (fun x v hv=>by simp[mS]at hv;rcases hv with rfl|rfl<;>rfl) (fun x y=>Lib.compareInt x.1 y.1) (W4 (·.1)) 100 #[] blk 0 cap d w eg (fun _ _ _ _ x y=>Xe x y _) hH hblk bR;exact AH
theorem Xh(l:List Span)(hl:l≠[])(hlen:l.length<4611686018427387904) :
  aw E 99 [.arr 0 (169,2) (l.map Span.enc)] [.own 0 0,.fn (.func 100) [] []] (fun a b=>a=.aF []/\∃ l':List Span,l'.Perm l/\l'.Pairwise (fun x y=>x.bL<=y.bL)/\b=[.arr 0 (169,2) (l'.map Span.enc)]):=by
 have h:=W7 (E:=E) (t:=169) Xg ⟨_,Tryz.func99,rfl,by decide⟩ (l.map fun k=>(k.bL,k.upto)) (by simpa using hl) (by simpa using hlen);have e1:∀ m:List Span,(m.map fun k=>(k.bL,k.upto)).map kI=m.map Span.enc:=fun m=>by rw[agj];rfl
 rw[e1]at h;refine h.mono fun a b ⟨ha,l',hp,hs,hb⟩=>⟨ha,l'.map fun p=>⟨p.1,p.2⟩,?_,?_,?_⟩
 ·have:=hp.map fun p:Int × Int=>(⟨p.1,p.2⟩:Span);rw[agj]at this;have e2:((fun p:Int × Int=>(⟨p.1,p.2⟩:Span)) ∘ fun k:Span=>(k.bL,k.upto))=id:=rfl;rw[e2,List.map_id]at this;exact this
 ·exact List.pairwise_map.2 hs
 ·rw[hb,agj];rfl
end Go.Proofs.YtfmdaiojokniiaaGreatDoor.P
end
section
namespace Go.Proofs
open Go.Shelf
def Tryz.YT:Go.Shelf.Ren:=⟨fun|178=>269|251=>270|252=>271|181=>125|184=>327|290=>328|324=>349|n=>n,fun|130=>265|9=>9|3=>3|75=>261|0=>0|93=>202|91=>200|131=>287|4=>4|37=>115|20=>20|80=>298|5=>5|n=>n,fun|14=>1|n=>n⟩
theorem Tryz.OC:Go.Proofs.LaysM.n178 Tryz.prog Tryz.YT:={
 mixed:=by kernel_rfl
 f178:=Tryz.func269.trans (congrArg some (by kernel_rfl))
 f181:=Tryz.func125.trans (congrArg some (by kernel_rfl))
 f184:=Tryz.func327.trans (congrArg some (by kernel_rfl))
 f251:=Tryz.func270.trans (congrArg some (by kernel_rfl))
 f252:=Tryz.func271.trans (congrArg some (by kernel_rfl))
 f290:=Tryz.func328.trans (congrArg some (by kernel_rfl))
 f324:=Tryz.func349.trans (congrArg some (by kernel_rfl))
 t0:=Tryz.underlying0
 a0:=Tryz.isAgg0
 z0:=Tryz.sizeOf0
 v0:=Tryz.zeroValue0
 t3:=Tryz.underlying3
 a3:=Tryz.isAgg3
 z3:=Tryz.sizeOf3
 v3:=Tryz.zeroValue3
 t4:=Tryz.underlying4
 a4:=Tryz.isAgg4
 z4:=Tryz.sizeOf4
 v4:=Tryz.zeroValue4
 t9:=Tryz.underlying9
 a9:=Tryz.isAgg9
 z9:=Tryz.sizeOf9
 v9:=Tryz.zeroValue9
 t20:=Tryz.underlying20
 a20:=Tryz.isAgg20
 z20:=Tryz.sizeOf20
 v20:=Tryz.zeroValue20
 t37:=Tryz.underlying115
 a37:=Tryz.isAgg115
 z37:=Tryz.sizeOf115
 v37:=Tryz.zeroValue115
 t75:=Tryz.underlying261
 a75:=Tryz.isAgg261
 z75:=Tryz.sizeOf261
 v75:=Tryz.zeroValue261
 t91:=Tryz.underlying200
 a91:=Tryz.isAgg200
 z91:=Tryz.sizeOf200
 v91:=Tryz.zeroValue200
 t93:=Tryz.underlying202
 a93:=Tryz.isAgg202
 z93:=Tryz.sizeOf202
 v93:=Tryz.zeroValue202
 t130:=Tryz.underlying265
 a130:=Tryz.isAgg265
 z130:=Tryz.sizeOf265
 v130:=Tryz.zeroValue265
 t131:=Tryz.underlying287
 a131:=Tryz.isAgg287
 z131:=Tryz.sizeOf287
 v131:=Tryz.zeroValue287
 g14:=by kernel_rfl
 t5:=Tryz.underlying5
 a5:=Tryz.isAgg5
 z5:=Tryz.sizeOf5
 v5:=Tryz.zeroValue5
 t80:=Tryz.underlying298
 a80:=Tryz.isAgg298
 z80:=Tryz.sizeOf298
 v80:=Tryz.zeroValue298
 i0:=by kernel_rfl
 i3:=by kernel_rfl
 i4:=by kernel_rfl
 i5:=by kernel_rfl
 i9:=by kernel_rfl
 i20:=by kernel_rfl
 i37:=by kernel_rfl
 i75:=by kernel_rfl
 i80:=by kernel_rfl
 i91:=by kernel_rfl
 i93:=by kernel_rfl
 i130:=by kernel_rfl
 i131:=by kernel_rfl
 m14:=by kernel_rfl }
def Tryz.YU:Go.Shelf.Ren:=⟨fun|179=>202|251=>270|252=>271|181=>125|184=>327|290=>328|324=>349|n=>n,fun|130=>265|5=>5|75=>261|0=>0|93=>202|91=>200|3=>3|131=>287|4=>4|37=>115|20=>20|80=>298|9=>9|n=>n,fun|14=>1|n=>n⟩
theorem Tryz.OD:Go.Proofs.LaysM.n179 Tryz.prog Tryz.YU:={
 mixed:=by kernel_rfl
 f179:=Tryz.func202.trans (congrArg some (by kernel_rfl))
 f181:=Tryz.func125.trans (congrArg some (by kernel_rfl))
 f184:=Tryz.func327.trans (congrArg some (by kernel_rfl))
 f251:=Tryz.func270.trans (congrArg some (by kernel_rfl))
 f252:=Tryz.func271.trans (congrArg some (by kernel_rfl))
 f290:=Tryz.func328.trans (congrArg some (by kernel_rfl))
 f324:=Tryz.func349.trans (congrArg some (by kernel_rfl))
 t0:=Tryz.underlying0
 a0:=Tryz.isAgg0
 z0:=Tryz.sizeOf0
 v0:=Tryz.zeroValue0
 t3:=Tryz.underlying3
 a3:=Tryz.isAgg3
 z3:=Tryz.sizeOf3
 v3:=Tryz.zeroValue3
 t4:=Tryz.underlying4
 a4:=Tryz.isAgg4
 z4:=Tryz.sizeOf4
 v4:=Tryz.zeroValue4
 t5:=Tryz.underlying5
 a5:=Tryz.isAgg5
 z5:=Tryz.sizeOf5
 v5:=Tryz.zeroValue5
 t20:=Tryz.underlying20
 a20:=Tryz.isAgg20
 z20:=Tryz.sizeOf20
 v20:=Tryz.zeroValue20
 t37:=Tryz.underlying115
 a37:=Tryz.isAgg115
 z37:=Tryz.sizeOf115
 v37:=Tryz.zeroValue115
 t75:=Tryz.underlying261
 a75:=Tryz.isAgg261
 z75:=Tryz.sizeOf261
 v75:=Tryz.zeroValue261
 t91:=Tryz.underlying200
 a91:=Tryz.isAgg200
 z91:=Tryz.sizeOf200
 v91:=Tryz.zeroValue200
 t93:=Tryz.underlying202
 a93:=Tryz.isAgg202
 z93:=Tryz.sizeOf202
 v93:=Tryz.zeroValue202
 t130:=Tryz.underlying265
 a130:=Tryz.isAgg265
 z130:=Tryz.sizeOf265
 v130:=Tryz.zeroValue265
 t131:=Tryz.underlying287
 a131:=Tryz.isAgg287
 z131:=Tryz.sizeOf287
 v131:=Tryz.zeroValue287
 g14:=by kernel_rfl
 t9:=Tryz.underlying9
 a9:=Tryz.isAgg9
 z9:=Tryz.sizeOf9
 v9:=Tryz.zeroValue9
 t80:=Tryz.underlying298
 a80:=Tryz.isAgg298
 z80:=Tryz.sizeOf298
 v80:=Tryz.zeroValue298
 i0:=by kernel_rfl
 i3:=by kernel_rfl
 i4:=by kernel_rfl
 i5:=by kernel_rfl
 i9:=by kernel_rfl
 i20:=by kernel_rfl
 i37:=by kernel_rfl
 i75:=by kernel_rfl
 i80:=by kernel_rfl
 i91:=by kernel_rfl
 i93:=by kernel_rfl
 i130:=by kernel_rfl
 i131:=by kernel_rfl
 m14:=by kernel_rfl }
def Tryz.YV:Go.Shelf.Ren:=⟨fun|180=>268|251=>270|252=>271|181=>125|184=>327|290=>328|324=>349|n=>n,fun|130=>265|37=>115|3=>3|75=>261|0=>0|93=>202|91=>200|131=>287|4=>4|20=>20|5=>5|80=>298|9=>9|n=>n,fun|14=>1|n=>n⟩
theorem Tryz.YW:Go.Proofs.LaysM.n180 Tryz.prog Tryz.YV:={
 mixed:=by kernel_rfl
 f180:=Tryz.func268.trans (congrArg some (by kernel_rfl))
 f181:=Tryz.func125.trans (congrArg some (by kernel_rfl))
 f184:=Tryz.func327.trans (congrArg some (by kernel_rfl))
 f251:=Tryz.func270.trans (congrArg some (by kernel_rfl))
 f252:=Tryz.func271.trans (congrArg some (by kernel_rfl))
 f290:=Tryz.func328.trans (congrArg some (by kernel_rfl))
 f324:=Tryz.func349.trans (congrArg some (by kernel_rfl))
 t0:=Tryz.underlying0
 a0:=Tryz.isAgg0
 z0:=Tryz.sizeOf0
 v0:=Tryz.zeroValue0
 t3:=Tryz.underlying3
 a3:=Tryz.isAgg3
 z3:=Tryz.sizeOf3
 v3:=Tryz.zeroValue3
 t4:=Tryz.underlying4
 a4:=Tryz.isAgg4
 z4:=Tryz.sizeOf4
 v4:=Tryz.zeroValue4
 t20:=Tryz.underlying20
 a20:=Tryz.isAgg20
 z20:=Tryz.sizeOf20
 v20:=Tryz.zeroValue20
 t37:=Tryz.underlying115
 a37:=Tryz.isAgg115
 z37:=Tryz.sizeOf115
 v37:=Tryz.zeroValue115
 t75:=Tryz.underlying261
 a75:=Tryz.isAgg261
 z75:=Tryz.sizeOf261
 v75:=Tryz.zeroValue261
 t91:=Tryz.underlying200
 a91:=Tryz.isAgg200
 z91:=Tryz.sizeOf200
 v91:=Tryz.zeroValue200
 t93:=Tryz.underlying202
 a93:=Tryz.isAgg202
 z93:=Tryz.sizeOf202
 v93:=Tryz.zeroValue202
 t130:=Tryz.underlying265
 a130:=Tryz.isAgg265
 z130:=Tryz.sizeOf265
 v130:=Tryz.zeroValue265
 t131:=Tryz.underlying287
 a131:=Tryz.isAgg287
 z131:=Tryz.sizeOf287
 v131:=Tryz.zeroValue287
 g14:=by kernel_rfl
 t5:=Tryz.underlying5
 a5:=Tryz.isAgg5
 z5:=Tryz.sizeOf5
 v5:=Tryz.zeroValue5
 t9:=Tryz.underlying9
 a9:=Tryz.isAgg9
 z9:=Tryz.sizeOf9
 v9:=Tryz.zeroValue9
 t80:=Tryz.underlying298
 a80:=Tryz.isAgg298
 z80:=Tryz.sizeOf298
 v80:=Tryz.zeroValue298
 i0:=by kernel_rfl
 i3:=by kernel_rfl
 i4:=by kernel_rfl
 i5:=by kernel_rfl
 i9:=by kernel_rfl
 i20:=by kernel_rfl
 i37:=by kernel_rfl
 i75:=by kernel_rfl
 i80:=by kernel_rfl
 i91:=by kernel_rfl
 i93:=by kernel_rfl
 i130:=by kernel_rfl
 i131:=by kernel_rfl
 m14:=by kernel_rfl }
end Go.Proofs
end
section
namespace Go.Proofs.YtfmdaiojokniiaaGreatDoor.P
open Go Go.aA Go.Sort Go.RowKit
def gC(l:List Int):List Int:=l.mergeSort fun x y=>decide (x<=y)
theorem yl(l:List Int):(gC l).Perm l:=List.mergeSort_perm ..
theorem IE(l:List Int):(gC l).Pairwise (· <= ·):=by
 have:=List.pairwise_mergeSort (le:=fun x y=>decide (x<=y)) (by intro a b c;simp;omega) (by intro a b;simp;omega) l;exact this.imp fun{a b} h=>by simpa using h
def Ph(P:Program)(f:Nat):Prop:=∀ (blk cap:Nat) (zs:List Int) (w:World),Holds (Value.int .i64) w blk 0 zs.toArray->blk<w.heap.size->zs.length<4611686018427387904 ->
 Calls P f #[.slice (some ⟨blk,0,none⟩) zs.length cap] w fun e w'=>e=.returned (.tuple #[])/\∃ n os,w'=grow (putRow (Value.int .i64) (Sort.ahead w n) blk 0 (gC zs).toArray) os
theorem Z2{w:World}{blk n:Nat}{d:Array Int}{os:Array Obj}{vs:Array Value}{ty:TypeId}(hb:w.heap[blk]?=some (.cells vs ty (0,0))) :
  let w':=grow (putRow (Value.int .i64) (Sort.ahead w n) blk 0 d) os
  w'.os=w.os/\w'.tape=w.tape/\w'.output=w.output/\w.heap.size<=w'.heap.size/\(∀ b,b<w.heap.size->b≠blk->w'.heap[b]?=w.heap[b]?)/\w'.heap[blk]?=some (.cells (putCells (Value.int .i64) 0 d vs) ty (0,0)):=by
 intro w';have ah:blk<w.heap.size:=by
  rcases adV blk w.heap.size with h|h
  ·exact h
  ·rw[ahg h]at hb;cases hb
 have bR:(putRow (Value.int .i64) (Sort.ahead w n) blk 0 d).heap.size=w.heap.size:=by simp[putRow,mapBlock]
 refine⟨rfl,rfl,rfl,?_,fun b cw aJ=>?_,?_⟩
 ·show w.heap.size<=(grow _ os).heap.size;rw[size_grow,bR];omega
 ·show(grow _ os).heap[b]?=_;rw[heap_grow_old _ _ (by rw[bR];exact cw)];simp[putRow,mapBlock,aes,Ne.symm aJ]
 ·show(grow _ os).heap[blk]?=_;rw[heap_grow_old _ _ (by rw[bR];exact ah)];simp[putRow,mapBlock,aes,hb,onCells]
theorem Z3{E:Env}{f:FuncId}{t:Nat}(hS:Ph E.P f)(fo:lH E.P f)(l:List Int)(hl:l≠[])(hlen:l.length<4611686018427387904) :
  aw E f [.arr 0 (t,1) (l.map (DV.int .i64))] [.own 0 0] (fun a b=>a=.aF []/\b=[.arr 0 (t,1) ((gC l).map (DV.int .i64))]):=by
 unfold aw;refine⟨fo,kn rfl,fun c vs h1 h2 h3=>?_⟩;obtain⟨v1,rfl⟩:∃ v1,vs=[v1]:=by
  have:=h3.1
  match vs,this with
  |[a],_=>exact⟨a,rfl⟩
 have lg:=h3.2 0 _ v1 rfl rfl;have dx:c.heap[0]?=some (.arr 0 (t,1) (l.map (DV.int .i64))):=by rw[h1];rfl
 rcases kW dx lg with⟨blk,cap,r1,rfl⟩|⟨nB,-,-⟩
 case inr=>exact absurd (ahk.1 nB) hl
 obtain⟨q0,q1,q2⟩:=h2.box 0 _ dx;rcases q2 with⟨q2,-⟩|⟨iX,gZ,vs',q2,q3,q4,q5,q6,q7⟩
 ·rw[r1]at q2;cases q2
 rw[r1]at q2;cases q2;simp only at q3 q4 q7;have dO:∀ (i:Nat) (x:Int),l[i]?=some x->vs'[i]?=some (.int .i64 x):=fun i x hx=>by
  have he:(l.map (DV.int .i64))[i]?=some (DV.int .i64 x):=by simp[hx]
  obtain⟨v,a1,a2,a3⟩:=q7 i 0 (DV.int .i64 x) (.int .i64 x) he rfl;rw[HP a3]at a1
  simpa using a1
 have hH:Holds (Value.int .i64) c.w blk 0 l.toArray:=by
  intro j hj;have eU:j<l.length:=by simpa using hj
  obtain⟨x,hx⟩:∃ x,l[j]?=some x:=⟨l[j]'(by omega),by rw[afo]⟩;have wK:l.toArray[j]! = x:=by
   rw[getElem!_pos l.toArray j (by simpa using eU)];have:=ag2.1 hx
   simpa using this.2
  refine⟨?_,by simp[World.frozen?,q3]⟩;rw[wK];exact mf q3 _ _ (by simpa using dO j x hx)
 have hblk:=(h2.bB 0 blk cap r1).1;have je:=hS blk cap l c.w hH hblk hlen;have kf:([Value.slice (some ⟨blk,0,none⟩) (l.map (DV.int .i64)).length cap]:List Value).toArray = #[.slice (some ⟨blk,0,none⟩) l.length cap]:=by simp
 rw[kf];refine je.mono fun e w' ⟨he,n,os,hw⟩=>?_;subst he;have fy:(gC l).length=l.length:=(yl l).length_eq;obtain⟨a1,a2,a3,a4,a5,a6⟩:=Z2 (n:=n) (d:=(gC l).toArray) (os:=os) q3;rw[<- hw]at a1 a2 a3 a4 a5 a6
 let c':Cx:={ c with heap:=[.arr 0 (t,1) ((gC l).map (DV.int .i64))],w:=w' }
 have bZ:∀ i bx,c.heap[i]?=some bx->i=0/\bx=.arr 0 (t,1) (l.map (DV.int .i64)):=fun i bx hi=>by
  rw[h1]at hi;cases i with
  |zero=>simp at hi;exact⟨rfl,hi.symm⟩
  |succ i=>simp at hi
 have oV:((gC l).map (DV.int .i64)).length=(l.map (DV.int .i64)).length:=by simp[fy]
 have bg:aA.Step c c':=⟨rfl,h2.bS,a1,a2,a3,a4,fun b hb hn=>a5 b hb (fun e=>by subst e;exact hn 0 cap r1),fun i b n hi _=>⟨n,hi⟩,fun i bx hi=>by
  obtain⟨rfl,rfl⟩:=bZ i bx hi
  exact .inl ⟨0,_,rfl,.inr ⟨rfl,oV,rfl⟩⟩⟩
 have aP:aM E.G c':=h2.next bg (fun i b n hi=>by
   have:=h2.bB i b n hi;refine⟨ad4 this.1 a4,?_⟩;have h0:c.heap.length=1:=by rw[h1];rfl
   show i<1;omega) h2.inj (fun i bx hi=>by
  right;cases i with
  |succ i=>simp[c']at hi
  |zero =>
   simp[c']at hi;subst hi;refine⟨q0,fun i e he=>?_,.inr ⟨blk,cap,_,r1,a6,?_,?_,q6,fun i j e x he hx=>?_⟩⟩
   ·simp only[ad1]at he;cases hq:(gC l)[i]? with
    |none=>rw[hq]at he;cases he
    |some y=>rw[hq]at he;cases he;rfl
   ·simp[putCells,q4]
   ·rw[oV];exact q5
   ·simp only[ad1]at he;cases hq:(gC l)[i]? with
    |none=>rw[hq]at he;cases he
    |some y =>
     rw[hq]at he;cases he;have hi:i<l.length:=by have:=aX hq;omega
     have eT:vs'.size=cap*1:=q4;have dL:(l.map (DV.int .i64)).length=l.length:=by simp
     have kH:l.length<=cap:=by rw[<- dL];exact q5
     have hy:(gC l).toArray[i]! = y:=by
      rw[getElem!_pos (gC l).toArray i (by simp;omega)];have:=ag2.1 hq
      simpa using this.2
     have at_:(putCells (Value.int .i64) 0 (gC l).toArray vs')[i]?=some (.int .i64 y):=by
      have h5:i<vs'.size:=by omega
      simp only[putCells,ahl,aev h5,aeT];rw[if_pos ⟨afv _,by simp;omega⟩,Nat.sub_zero,hy]
     match j with
     |0 =>
      simp[DV.cells]at hx;subst hx;exact⟨_,by simpa using at_,rfl,.int _ _⟩
     |j+1=>simp[DV.cells]at hx)
 refine⟨c',.aF [],.tuple #[],rfl,rfl,⟨rfl,rfl⟩,.aF [] #[] rfl (fun j x v hx=>by simp at hx),aP,?_⟩
 exact⟨rfl,a1,a2,a3,a4,fun b hb hn=>a5 b hb (fun e=>by subst e;exact hn 0 cap r1),fun i b n hi _=>⟨n,hi⟩,fun i bx hi=>by
  obtain⟨rfl,rfl⟩:=bZ i bx hi
  exact .inl ⟨0,_,rfl,.inr ⟨rfl,oV,rfl⟩⟩⟩
end Go.Proofs.YtfmdaiojokniiaaGreatDoor.P
end
