/- Lemmas of mine. Conditions: as stated. -/
import Derived.Test.YtlhehdgciafakaaGreatDoorQ4
import Derived.Test.YtlhehdgciafakaaGreatDoorQ5
import Derived.Shelf.SlSortCmp.WholeK
import Derived.Shelf.SortM.Plain
import Derived.Ground.NamesProg
import Derived.Shelf.Small.Strs
import Derived.Shelf.Strings.OnBuilder
import Derived.Test.YtlhehdgciafakaaGreatDoorProg
set_option linter.unusedVariables false
set_option linter.unusedSimpArgs false
open Array renaming getElem?_modify->ahZ,getElem?_eq_none->akO,getElem?_eq_getElem->ah2,getElem?_mapIdx->akT
open Bool renaming and_eq_true->ai2,eq_iff_iff->akN
open Int renaming toNat_natCast->ai0
open List renaming mem_cons->ai3,cons_append->aie,getElem?_map->ahy,mem_cons_self->aio,mem_cons_of_mem->aip,suffix_iff_eq_drop->akQ,length_map->aiO,take_length->akR,mem_of_getElem?->aiQ,eq_nil_of_length_eq_zero->ahM,map_eq_nil_iff->akS,getElem?_eq_getElem->aiX,getElem?_eq_some_iff->akz
open Nat renaming zero_le->ai4,le_refl->ahL,lt_or_ge->ahs,lt_succ_iff_lt_or_eq->akP,lt_of_lt_of_le->ahD
open Option renaming map_some->air
section
namespace Go.Proofs.YtlhehdgciafakaaGreatDoor.Nm
def split:List UInt8->List (List UInt8)
 |[]=>[[]]
 |c::r=>if c=46 then[]::split r else match split r with
  |[]=>[[c]]
  |h::t=>(c::h)::t
theorem pK(l:List UInt8):split l≠[]:=by
 cases l with
 |nil=>simp[split]
 |cons c r=>simp only[split];split<;>(try split)<;>simp
theorem rJ(c:UInt8)(r:List UInt8)(h:c≠46):∃ x t,split r=x::t/\split (c::r)=(c::x)::t:=by
 have:=pK r
 match hr:split r,this with
 |x::t,_=>exact⟨x,t,rfl,by simp[split,h,hr]⟩
theorem D0(a b:List UInt8):split (a++46::b)=split a++split b:=by
 induction a with
 |nil=>simp[split]
 |cons c r ih =>
  by_cases h:c=46
  ·subst h;simp[split,ih]
  ·obtain⟨x,t,h1,h2⟩:=rJ c r h;obtain⟨y,u,h3,h4⟩:=rJ c (r++46::b) h;rw[aie,h4,h2];rw[ih,h1]at h3;simp only[aie,List.cons.injEq]at h3;obtain⟨rfl,rfl⟩:=h3;rfl
theorem D1(l:List UInt8)(h:46 ∉ l):split l=[l]:=by
 induction l with
 |nil=>rfl
 |cons c r ih =>
  simp only[ai3,not_or]at h;have hc:c≠46:=fun e=>h.1 e.symm;simp[split,hc,ih h.2]
theorem Wi(l:List UInt8):split (l++[46])=split l++[[]]:=D0 l []
theorem Wj(l:List UInt8)(c:UInt8)(h:c≠46):∃ i x,split l=i++[x]/\split (l++[c])=i++[x++[c]]:=by
 induction l with
 |nil=>exact⟨[],[],rfl,by simp[split,h]⟩
 |cons d r ih =>
  obtain⟨i,x,h1,h2⟩:=ih;by_cases hd:d=46
  ·subst hd;exact⟨[]::i,x,by simp[split,h1],by simp[split,h2]⟩
  ·obtain⟨y,u,h3,h4⟩:=rJ d r hd;obtain⟨z,v,h5,h6⟩:=rJ d (r++[c]) hd;rw[h1]at h3;rw[h2]at h5;rw[aie,h6,h4];cases i with
   |nil =>
    simp only[List.nil_append,List.cons.injEq]at h3 h5;obtain⟨rfl,rfl⟩:=h3;obtain⟨rfl,rfl⟩:=h5;exact⟨[],d::x,rfl,rfl⟩
   |cons p q =>
    simp only[aie,List.cons.injEq]at h3 h5;obtain⟨rfl,rfl⟩:=h3;obtain⟨rfl,rfl⟩:=h5;exact⟨(d::p)::q,x,rfl,rfl⟩
theorem NR(l:List UInt8):∀ x∈split l,46 ∉ x:=by
 induction l with
 |nil=>simp[split]
 |cons c r ih =>
  by_cases hc:c=46
  ·subst hc;simp only[split,if_true];intro x hx;rcases ai3.1 hx with rfl|h
   ·simp
   ·exact ih x h
  ·obtain⟨y,u,h1,h2⟩:=rJ c r hc;rw[h2];intro x hx;rcases ai3.1 hx with rfl|h
   ·simp only[ai3,not_or];exact⟨fun e=>hc e.symm,ih y (by rw[h1];simp)⟩
   ·exact ih x (by rw[h1];simp[h])
def glue:List (List UInt8)->List UInt8
 |[]=>[]
 |[x]=>x
 |x::y::t=>x++46::glue (y::t)
theorem wW(l:List UInt8):glue (split l)=l:=by
 induction l with
 |nil=>rfl
 |cons c r ih =>
  by_cases hc:c=46
  ·subst hc;simp only[split,if_true];have:=pK r
   match hr:split r,this with
   |x::t,_=>rw[hr]at ih;simp[glue,ih]
  ·obtain⟨y,u,h1,h2⟩:=rJ c r hc;rw[h2];rw[h1]at ih;cases u with
   |nil=>simp only[glue]at ih ⊢;rw[ih]
   |cons z v=>simp only[glue,aie]at ih ⊢;rw[ih]
theorem NS(ls:List (List UInt8))(aL:ls≠[])(h:∀ x∈ls,46 ∉ x):split (glue ls)=ls:=by
 induction ls with
 |nil=>exact absurd rfl aL
 |cons x t ih =>
  cases t with
  |nil=>exact D1 x (h x sP)
  |cons y u =>
   simp only[glue];rw[D0,D1 x (h x sP),ih sP (fun z hz=>h z (by simp[hz]))];rfl
theorem NT(a b:List UInt8)(h:split a=split b):a=b:=by rw[<- wW a,<- wW b,h]
def Im(c:UInt8):Bool:=(decide (97<=c.toNat)&&decide (c.toNat<=122))||(decide (48<=c.toNat)&&decide (c.toNat<=57))
def rK(l:List UInt8)(i:Nat):Bool:=match l[i]? with
 |some c=>Im c||(c==45&&decide (0<i)&&decide (i+1<l.length))
 |none=>true
def label(l:List UInt8):Bool:=decide (1<=l.length/\l.length<=12/\∀ i,i<l.length->rK l i=true)
def parts(ls:List (List UInt8)):Bool:=decide (ls.length<=8)&&(match ls with
 |[]=>true
 |x::t=>(label x||x==[42])&&t.all label)
def valid(l:List UInt8):Bool:=decide (l=[46])||(decide (l.length<=60)&&parts (split l))
def labels(l:List UInt8):List (List UInt8):=if l=[46]then[]else split l
def under(s z:List UInt8):Bool:=decide (labels z <:+ labels s)
def jS(l:List UInt8):Bool:=match l with
 |c::_=>c==42
 |[]=>false
end Go.Proofs.YtlhehdgciafakaaGreatDoor.Nm
end
section
namespace Go.az
open Go Go.RowKit
def N2(H:List ae)(r:AV):Bool:=Ik H.length [] H&&ju H.length [] r
theorem au.tq{E:Env}{f:FuncId}{H H1:List ae}{args:List AV}{r0:AV}(hc:au E f H args (fun a b=>a=r0/\b=H1))(hr:mn H.length [] 0 H1=H)(hk:N2 H r0=true):au E f H args (fun a b=>a=r0/\b=H):=by
 simp only[N2,ai2]at hk;obtain⟨dR,hv⟩:=hk;unfold au at hc ⊢;refine⟨hc.1,hc.2.1,fun c vs h1 h2 h3=>(hc.2.2 c vs h1 h2 h3).mono fun e w' ⟨c',r,v,k1,k2,⟨k3,BH⟩,k4,k5,k6⟩=>?_⟩;subst k3;have a1:=k5.im (n:=H.length) (B:=[]) (by rw[BH,hr];exact dR);have a2:=DY (n:=H.length) (B:=[]) hv k4;obtain⟨b1,b2⟩:=a1.NQ (aD:=c'.aD) (fun b hb => .inl hb);refine⟨⟨(c'.im H.length []).own,(c'.im H.length []).heap,c'.aD,c'.w⟩,r,v,k1,k2,⟨rfl,by show mn _ _ 0 c'.heap=H;rw[BH,hr]⟩,b2 _ _ a2,b1,?_⟩;have hid:∀ i,i<H.length->eA H.length [] i=false:=fun i hi=>by
  have:Nat.ble H.length i=false:=by
   cases q:Nat.ble H.length i
   ·rfl
   ·have:=Nat.le_of_ble_eq_true q;omega
  simp only[eA,this];rfl
 exact{
  aD:=k6.aD
  os:=k6.os
  tape:=k6.tape
  output:=k6.output
  size:=k6.size
  keep:=k6.keep
  eh:=fun i b n hi hb=>k6.eh i b n (wU hi).2 hb
  boxes:=fun i bx hi=>by
   have ai:i<H.length:=by rw[<- h1];exact aW hi
   have e1:(mn H.length [] 0 c'.heap)[i]?=c'.heap[i]? := zf 0 i c'.heap (by rw[Nat.zero_add];exact hid i ai)
   exact wX (c:=c') (fun x hx=>e1.trans hx) (fun x _=>BF (hid i ai)) (k6.boxes i bx hi) }
theorem ve{G:List (Nat × DV)}{s:List AV}{f:FuncId}:bk G s (.func f) (.fn (.func f) [] []):=fun c a _ _=>by
 have:a.eval (.func f)=.func (.func f) #[] #[]:=rfl;rw[this];exact .fn _ [] [] #[] #[] rfl rfl (fun j x v hx=>by simp at hx) (fun j x v hx=>by simp at hx)
theorem N3{G:List (Nat × DV)}{s:List AV}{k:IntKind}{n:Int}:bk G s (.const (.int k n)) (.d (.int k n)):=fun c a _ _ => .d _ _ (.int _ _)
theorem Wq{G:List (Nat × DV)}{s:List AV}:kK G s [] []:=fun c a _ _ => .nil
theorem N4{G:List (Nat × DV)}{s:List AV}{x:Operand}{v:AV}{xs:List Operand}{vs:List AV}(h:bk G s x v)(k:kK G s xs vs):kK G s (x::xs) (v::vs):=fun c a h3 h4=>VL.cons (h c a h3 h4) (k c a h3 h4)
theorem nO{G:List (Nat × DV)}{s:List AV}{x:Operand}{v:AV}(h:bk G s x v):kK G s [x] [v]:=N4 h Wq
theorem zi{G:List (Nat × DV)}{s:List AV}{x y:Operand}{v w:AV}(h:bk G s x v)(k:bk G s y w):kK G s [x,y] [v,w]:=N4 h (nO k)
end Go.az
end
section
namespace Go.Proofs.YtlhehdgciafakaaGreatDoor.P
open Go Go.az
theorem mo{α:Type}{f:α->DV}{l:List α}{k:Nat}{x:α}(hx:l[k]?=some x):(l.map f)[((k:Nat):Int).toNat]?=some (f x):=by
 simp[hx]
theorem aI{α:Type}{l:List α}{k:Nat}(h:k<l.length):∃ x,l[k]?=some x:=⟨l[k],by simp[h]⟩
theorem cj{α:Type}{l:List α}{k:Nat}{x:α}(h:l[k]?=some x):l.take (k+1)=l.take k++[x]:=by
 rw[List.take_add_one,h];rfl
def vf(l:List DV)(n:Int)(e:DV):Prop:=0<=n/\l[n.toNat]?=some e
theorem aR{l:List DV}{sz:Nat}{n:Int}{K:DV->Prop}{e:DV}(h:vf l n e)(hs:e.cells.length=sz)(k:K e):sQ l sz n K:=fI e h.1 h.2 hs k
theorem bC{α:Type}{f:α->DV}{l:List α}{k:Nat}{x:α}(h:l[k]?=some x):vf (l.map f) (k:Int) (f x):=⟨by omega,mo h⟩
theorem tr{α:Type}{f:α->DV}{l:List α}{x:α}(h:l[0]?=some x):vf (l.map f) 0 (f x):=⟨by omega,by simp[h]⟩
theorem nP{α:Type}{f:α->DV}{l:List α}{k:Nat}{x:α}(h:l[k-1]?=some x)(h0:0<k)(hb:k<=4294967296):vf (l.map f) (IntKind.i64.wrap ((k:Int)-1)) (f x):=by
 have:IntKind.i64.wrap ((k:Int)-1)=((k-1:Nat):Int):=by rw[wrap64 oM oM];omega
 rw[this];exact bC h
theorem at_next{α:Type}{f:α->DV}{l:List α}{k:Nat}{x:α}(h:l[k+1]?=some x)(hb:k<=4294967296):vf (l.map f) (IntKind.i64.wrap ((k:Int)+1)) (f x):=by
 have:IntKind.i64.wrap ((k:Int)+1)=((k+1:Nat):Int):=by rw[wrap64 oM oM];omega
 rw[this];exact bC h
theorem dh{l:Text}(h:Nm.valid l=true):l.length<=60:=by
 simp only[Nm.valid,Bool.or_eq_true,decide_eq_true_eq,ai2]at h;rcases h with rfl|h
 ·simp
 ·exact h.1
theorem Ws{a b:Prop}(k:b)(h:a:=by first|with_reducible rfl|exact congrArg (DV.int .i64) oM|exact congrArg (DV.int .i64) (wrap64 oM oM)|exact congrArg (DV.int .i64) ((wrap64 oM oM).trans oM)):a/\b:=⟨h,k⟩
theorem Iu{P:Prop}(h:P:=by(conv=>whnf);repeat (first|exact trivial|(refine Ws ?_;conv=>whnf))):P:=h
theorem Iv{α:Type}[DecidableEq α]:∀ {l U:List α},l.Nodup->(∀ x∈l,x∈U)->l.length<=U.length
 |[],_,_,_=>by simp
 |x::l,U,h,hs=>by
  rw[List.nodup_cons]at h;have h1:=Iv (U:=U.erase x) h.2 fun y hy=>by
   have:y≠x:=fun e=>h.1 (e ▸ hy);exact(List.mem_erase_of_ne this).2 (hs y (aip _ hy))
  have h2:=List.length_erase_of_mem (hs x (aio ..));have h3:=List.length_pos_of_mem (hs x (aio ..));simp;omega
theorem eM{α:Type}{f:α->DV}{l:List α}{sz:Nat}{K:DV->Prop}{k:Nat}{x:α}(h:l[k]?=some x)(q:K (f x))(hs:(f x).cells.length=sz:=by exact rfl):sQ (l.map f) sz (k:Int) K:=aR (bC h) hs q
end Go.Proofs.YtlhehdgciafakaaGreatDoor.P
end
section
namespace Go.Proofs.YtlhehdgciafakaaGreatDoor.P
open Go Go.az
set_option maxRecDepth 100000
set_option maxHeartbeats 4000000
theorem D8{t:Text}{k:Nat}(hk:k<t.length)(h:¬ Nm.rK t k=true):Nm.label t=false:=by
 simp only[Nm.label,decide_eq_false_iff_not];exact fun e=>h (e.2.2 k hk)
theorem D9{t:Text}{k:Nat}{c:UInt8}(hc:t[k]?=some c):Nm.rK t k=true↔(97<=c.toNat/\c.toNat<=122)\/(48<=c.toNat/\c.toNat<=57)\/(c.toNat=45/\0<k/\k+1<t.length):=by
 have:c=45↔c.toNat=45:=⟨fun e=>by rw[e];rfl,fun e=>UInt8.toNat_inj.1 e⟩;simp[Nm.rK,hc,Nm.Im,this,or_assoc,and_assoc]
theorem N5(t:Text)(ht:t.length<=maxLen):aq E 235 [.str t] (· = .bool (Nm.label t)):=by
 unfold maxLen at ht;refine eP F235.h ?_;refine I.lP t.length (rg 2 44) (fun k=>[(3,.d (.int .i64 k))]) (fun _=>[]) (fun k=>k<=t.length/\∀ i,i<k->Nm.rK t i=true) ⟨ai4 _,by omega⟩ ?_ ?_
 ·exact sZ
 rintro k ⟨hk,aM⟩ IH;refine zA ?_ ?_<;>intro h5
 ·have ai:k<t.length:=zD h5
  obtain⟨c,hc⟩:=aI ai;have vg:=D9 hc;have back:Nm.rK t k=true->_:=fun e=>IH (k+1) ⟨ai,fun i hi=>(akP.1 hi).elim (aM i) (fun h=>h ▸ e)⟩ oM;have hw:IntKind.i64.wrap ((t.length:Int)-1)=(t.length:Int)-1:=wrap64 oM oM;refine gC ?_;refine mR c oM (by rw[ai0];exact hc) ?_;repeat' (first|with_reducible(first|refine cX ?_|apply ah<;>intro)|refine gE ?_|with_reducible rfl)
  all_goals try (refine I.run ag F235.h 2000 ?_;conv=>whnf)
  all_goals simp only[decide_eq_true_eq,decide_eq_false_iff_not,beq_iff_eq,beq_eq_false_iff_ne,Bool.not_eq_true',Bool.not_eq_false',hw]at *
  all_goals first
   |(rw[D8 ai (by rw[vg];omega)];done)
   |(refine I.back (back (by rw[vg];omega)) ?_;exact Iu)
 ·have aA:k=t.length:=by have:=of_decide_eq_false h5;omega
  subst aA;refine gC ?_;have e:Nm.label t=decide (1<=t.length/\t.length<=12):=by
   simp only[Nm.label];exact decide_eq_decide.2 ⟨fun h=>⟨h.1,h.2.1⟩,fun h=>⟨h.1,h.2,aM⟩⟩
  rw[e];repeat' (first|with_reducible(first|refine cX ?_|apply ah<;>intro)|refine gE ?_|with_reducible rfl)
  all_goals (refine congrArg DV.bool ?_;rw[akN];simp_all<;>omega)
theorem Wt{t:Text}{k:Nat}{c:UInt8}(hc:t[k]?=some c)(h:c=46):Nm.split (t.take (k+1))=Nm.split (t.take k)++[[]]:=by
 rw[cj hc,h,Nm.Wi]
theorem Wu{t:Text}{k:Nat}{c:UInt8}(hc:t[k]?=some c)(h:c≠46){i:List Text}{x:Text}(e:Nm.split (t.take k)=i++[x]):Nm.split (t.take (k+1))=i++[x++[c]]:=by
 obtain⟨j,y,h1,h2⟩:=Nm.Wj (t.take k) c h;rw[e]at h1;obtain⟨rfl,h3⟩:=List.append_inj' h1 rfl;cases h3;rw[cj hc,h2]
theorem Iw(t:Text):(Nm.split t).length<=t.length+1:=by
 induction t with
 |nil=>simp[Nm.split]
 |cons c r ih =>
  by_cases hc:c=46
  ·subst hc;simp[Nm.split];omega
  ·obtain⟨x,u,h1,h2⟩:=Nm.rJ c r hc;rw[h2];rw[h1]at ih;simp at ih ⊢;omega
theorem N6(t:Text):∀ x∈Nm.split t,x.length<=t.length:=by
 induction t with
 |nil=>simp[Nm.split]
 |cons c r ih =>
  intro x hx;by_cases hc:c=46
  ·subst hc;simp only[Nm.split,if_true]at hx;rcases ai3.1 hx with rfl|hx
   ·simp
   ·have:=ih x hx;simp;omega
  ·obtain⟨y,u,h1,h2⟩:=Nm.rJ c r hc;rw[h2]at hx;rw[h1]at ih;rcases ai3.1 hx with rfl|hx
   ·have:=ih y (aio ..);simp;omega
   ·have:=ih x (aip _ hx);simp;omega
theorem Ix(t:Text)(ht:t.length<=1000):aq E 234 [.str t] (· = .sl ((Nm.split t).map .str)):=by
 refine aq.run ag (fn:=Tryz.f234) Tryz.func234 (body:=Tryz.f234.body.getD .skip) rfl dC 6 ?_;(conv=>whnf);refine I.rF ag rfl (gC ?_);refine I.lP t.length ([3,4]++rg 6 30) (fun k=>[(4,.d (.int .i64 k)),(3,.own 0 1)]) (fun k=>[(0,.arr 1 (9,1) ((Nm.split (t.take k)).map .str))]) (fun k=>k<=t.length) (ai4 _) ?_ ?_
 ·refine sY ?_
  exact And.intro (by simp[Nm.split]) sZ
 ·intro k hk IH;have hlen:=Iw (t.take k);rw[List.length_take]at hlen;refine zA ?_ ?_<;>intro h1
  ·have ai:k<t.length:=zD h1
   obtain⟨c,hc⟩:=aI ai;refine gC ?_;refine mR c oM (by rw[ai0];exact hc) ?_;refine gC ?_;apply ah<;>intro h2
   ·have Iy:c=46:=by
     have:(c.toNat:Int)=46:=zD h2
     exact UInt8.toNat_inj.1 (by simp;omega)
    refine gC ?_;refine nA (gC ?_);refine I.back (IH (k+1) oM oM) ?_;refine sY ?_
    refine And.intro (by rw[Wt hc Iy];simp) ?_;exact sZ
   ·have Iy:c≠46:=by rintro rfl;simp at h2
    obtain⟨i,x,e1⟩:∃ i x,Nm.split (t.take k)=i++[x]:=⟨_,_,(List.dropLast_concat_getLast (Nm.pK _)).symm⟩;have bc:=Wu hc Iy e1;rw[e1]at hlen ⊢;have hw:IntKind.i64.wrap ((((i++[x]).map DV.str).length:Int)-1)=(i.length:Int):=by
     rw[wrap64 sP (by simp;simp at hlen;omega)];simp
    refine gC ?_;refine dU ?_;rw[hw];have eU:((i++[x]).map DV.str)[((i.length:Nat):Int).toNat]?=some (.str x):=by simp
    have Wv:(List.drop (Int.toNat (k:Int)) (List.take (IntKind.i64.wrap ((k:Int)+1)).toNat t))=[c]:=by
     rw[wrap64 oM oM,show((k:Int)+1).toNat=k+1 by omega,ai0,cj hc];simp[Nat.min_eq_left (Nat.le_of_lt ai)]
    refine bj ⟨by omega,by simp;omega⟩ ?_;refine gD ?_;refine fI (.str x) oM eU rfl (gD ?_);have dB:IntKind.i64.wrap ((k:Int)+1)=(k:Int)+1:=wrap64 oM oM;refine bj ⟨by simp,by simp[dB];omega,by simp[dB];omega⟩ ?_;refine gD ?_;have iO:x.length<=1000:=by
     have:=N6 (t.take k) x (by rw[e1];simp);simp at this;omega
    simp only[Option.getD_some];rw[Wv];refine bj (by simp;omega) ?_;refine gD ?_;refine bj ⟨by omega,by simp;omega⟩ ?_;refine gD ?_;refine fI (.str x) oM eU rfl (gD ?_);refine And.intro (by kernel_rfl) ?_;(conv=>whnf);refine gC ?_;refine I.back (IH (k+1) oM oM) ?_;refine sY ?_
    refine And.intro (by rw[bc];simp[List.set_append_right]) ?_;exact sZ
  ·have aA:k=t.length:=by simp at h1;omega
   subst aA;refine gC ?_;simp
theorem tu(t:Text)(ht:t.length<=1000):aq E 236 [.str t] (· = .sl ((Nm.labels t).map .str)):=by
 refine aq.norm ?_;refine eP Tryz.func236 ?_;repeat' (first|with_reducible(first|refine cC (Ix _ ht) ?_|refine cX ?_|apply ah<;>intro)|refine gA Tryz.func236 ?_|refine gB ?_|with_reducible rfl)
 all_goals simp_all[Nm.labels,norm]
theorem D'(t:Text):(Nm.labels t).length<=t.length+1:=by
 unfold Nm.labels;split
 ·simp
 ·exact Iw t
def Nm.fZ(s z:Text):Bool:=Nm.valid s&&Nm.valid z&&Nm.under s z
theorem rN(s z:Text)(hs:s.length<=1000)(hz:z.length<=1000):aq E 241 [.str s,.str z] (· = .bool (Nm.under s z)):=by
 have qd:=D' s;have po:=D' z;unfold Nm.under;refine eP F241.h ?_
 with_reducible refine ao (tu _ hs) ?_
 refine gC ?_
 with_reducible refine ao (tu _ hz) ?_
 refine gC ?_;generalize Nm.labels s=l at *;generalize Nm.labels z=m at *;apply ah<;>intro h3
 ·refine gC ?_;simp at h3;rw[decide_eq_false];exact fun h=>by have:=h.length_le;omega
 ·have hle:m.length<=l.length:=by simp at h3;omega
  have e:decide (m <:+ l)=decide (m=l.drop (l.length-m.length)):=decide_eq_decide.2 ⟨akQ.1,akQ.2⟩;rw[e];refine gC ?_;refine I.lP m.length ([4,7]++rg 17 21) (fun k=>[(7,.d (.int .i64 k))]) (fun _=>[]) (fun k=>k<=m.length/\m.take k=(l.drop (l.length-m.length)).take k) ⟨ai4 _,rfl⟩ ?_ ?_
  ·exact sZ
  rintro k ⟨hk,aM⟩ IH;refine zA ?_ ?_<;>intro h5
  ·have ai:k<m.length:=zD h5
   obtain⟨x,hx⟩:=aI ai;obtain⟨y,hy⟩:=aI (l:=l) (k:=l.length-m.length+k) oM;have Iz:(l.drop (l.length-m.length))[k]?=some y:=by rw[List.getElem?_drop];exact hy
   have hw:IntKind.i64.wrap (IntKind.i64.wrap ((l.length:Int)-m.length)+k)=((l.length-m.length+k:Nat):Int):=by rw[wrap64 (n:=(l.length:Int)-m.length) oM oM,wrap64 oM oM];omega
   refine gC ?_;refine dU ?_;refine aR (e := .str y) (by rw[aiO,aiO,hw];exact bC hy) rfl ?_;refine gD ?_;refine aR (e := .str x) (bC hx) rfl (gD ?_);refine gC ?_;by_cases oR:x=y
   ·refine aP (by simp[oR]) (gC ?_);exact I.back (IH (k+1) ⟨ai,by rw[cj hx,cj Iz,aM,oR]⟩ oM) sZ
   ·refine aN (by simpa using fun h=>oR h.symm) (gC ?_);rw[decide_eq_false];intro h;rw[<- h,hx]at Iz;exact oR (Option.some.inj Iz)
  ·have aA:k=m.length:=by simp at h5;omega
   subst aA;refine gC ?_;rw[akR,List.take_of_length_le (by simp;omega)]at aM;rw[decide_eq_true aM]
def fK(i:Nat)(x:Text):Bool:=Nm.label x||(decide (i=0)&&decide (x=[42]))
theorem pL{L:List Text}:Nm.parts L=true↔L.length<=8/\∀ i x,L[i]?=some x->fK i x=true:=by
 cases L with
 |nil=>simp[Nm.parts]
 |cons a r =>
  simp only[Nm.parts,ai2,decide_eq_true_eq,List.all_eq_true];constructor
  ·rintro⟨h1,h2,h3⟩;refine⟨h1,fun i x hx=>?_⟩;cases i with
   |zero=>simp at hx;subst hx;simpa [fK]using h2
   |succ i=>simp at hx;simp[fK,h3 x (aiQ hx)]
  ·rintro⟨h1,h2⟩;refine⟨h1,by simpa [fK]using h2 0 a rfl,fun x hx=>?_⟩;obtain⟨i,hi⟩:=List.getElem?_of_mem hx
   simpa [fK]using h2 (i+1) x (zD hi)
theorem fA(t:Text)(ht:t.length<=maxLen):aq E 155 [.str t] (· = .bool (Nm.valid t)):=by
 unfold maxLen at ht;refine eP F155.h ?_;apply ah<;>intro h1
 ·refine gC ?_;have e:t=[46]:=zD h1
  subst e;rfl
 have h1:t≠[46]:=zD h1
 refine gC ?_;apply ah<;>intro h2
 ·refine gC ?_;simp at h2;simp[Nm.valid,h1];omega
 have h2:t.length<=60:=by simp at h2;omega
 have hv:Nm.valid t=Nm.parts (Nm.split t):=by simp[Nm.valid,h1,h2]
 have c1:=Ix t oM;have hm:=N6 t;have hl:=Iw t;rw[hv];generalize Nm.split t=l at *;refine gC ?_;refine ao (c1) (gC ?_);refine I.lP l.length ([2,4,5]++rg 13 24) (fun k=>[(4,.d (.int .i64 k))]) (fun _=>[]) (fun k=>k<=l.length/\∀ i x,i<k->l[i]?=some x->fK i x=true) ⟨ai4 _,by omega⟩ ?_ ?_
 ·exact sZ
 rintro k ⟨hk,aM⟩ IH;refine zA ?_ ?_<;>intro h5
 ·have ai:k<l.length:=zD h5
  obtain⟨x,hx⟩:=aI ai;have no:¬ fK k x=true->Nm.parts l=false:=fun h=>by
   rw[<- Bool.not_eq_true,pL];exact fun e=>h (e.2 k x hx)
  have back:fK k x=true->_:=fun e=>IH (k+1) ⟨ai,fun i y hi hy=>(akP.1 hi).elim (fun h=>aM i y h hy) (fun h=>by subst h;rw[hx]at hy;cases hy;exact e)⟩ oM;have c2:=N5 x (by have:=hm x (aiQ hx);unfold maxLen;omega);unfold fK at no back;refine gC ?_;repeat' (first|with_reducible(first|refine aR ((bC hx)) rfl ?_|refine cC c2 ?_|refine cX ?_|apply ah<;>intro)|refine gE ?_|with_reducible rfl)
  all_goals try (refine I.run ag F155.h 2000 ?_;conv=>whnf)
  all_goals first
   |(rw[no (by simp_all;try omega)];done)
   |(refine I.back (back (by simp_all;try omega)) ?_;exact Iu)
 ·have aA:k=l.length:=by simp at h5;omega
  subst aA;have e:Nm.parts l=decide (l.length<=8):=by
   rw[akN,pL,decide_eq_true_eq];exact⟨And.left,fun h=>⟨h,fun i x hx=>aM i x (aW hx) hx⟩⟩
  rw[e];refine gC ?_;simp;omega
theorem kn(t:Text)(ht:t.length<=maxLen):aq E 189 [.str t] (· = .bool (Nm.jS t)):=by
 cases t with
 |nil =>
  refine eP F189.h ?_;refine aP dC (gC ?_);rfl
 |cons c r =>
  have e:((c.toNat:Int)==42)=(c==42):=by
   rw[akN,beq_iff_eq,beq_iff_eq];exact⟨fun h=>UInt8.toNat_inj.1 (Int.ofNat.inj h),fun h=>h ▸ rfl⟩
  refine eP F189.h ?_;refine aN sP (gC ?_);refine mR c oM rfl (gC ?_);rw[e];rfl
end Go.Proofs.YtlhehdgciafakaaGreatDoor.P
end
section
namespace Go.az
open Go Go.RowKit
set_option maxHeartbeats 1000000
theorem WW{bad:Nat->Prop}{w:World}{z:List DV}{v:Value}(hv:VD bad w (.sl z) v):∃ a cap,v=.slice a z.length cap/\z.length<=cap/\VD bad w (.sl z) (.slice a z.length z.length):=by
 cases hv with
 |slnil=>exact⟨none,0,rfl,ahL _,.slnil⟩
 |l6 a=>exact⟨some a,0,rfl,ahL _,.l6 a⟩
 |sl _ blk off cap sz f h1 h2 h3 h4 h5 h6 h7=>exact⟨_,cap,rfl,h3,.sl _ blk off z.length sz f h1 h2 (ahL _) h4 h5 h6 h7⟩
theorem I.slice3{E:Env}{s:List AV}{h:List ae}(hE:E.OK){aj:FuncId}{R:cT}{lits:List Nat}{ops:Array Oper}{o:Oper}{l:List Oper}{r:List aY}{t e:Nat}{ti ei:bA}{x y u m:Operand}{z:List DV}{j j1 j2:IntKind}{n:Nat}(hg:o.guard=none)
  (cH:o.op=.slice t x (some y) (some u) (some m)) (hi:E.T[t]?=some ti) (hk:ti.k=.slice e) (b9:E.T[e]?=some ei) (hv:bk E.G s x (.d (.sl z))) (hy:bk E.G s y (.d (.int j n))) (hu:bk E.G s u (.d (.int j1 z.length))) (hm:bk E.G s m (.d (.int j2 z.length))) (hn:n<=z.length) (bP:∀ e∈z,e.cells.length=ei.size)
  (H:cz s o.dst (.d (.sl (z.drop n))) fun s'=>I E aj R lits (.bF ops l::r) s' h):I E aj R lits (.bF ops (o::l)::r) s h:=by
 have ho:bE E o.op s h (.d (.sl (z.drop n))) h:=by
  rw[cH];refine .quiet fun o c ac e1 h2 h3 h4=>?_;subst h2;obtain⟨nJ,d,g1,g2,g3,-⟩:=cK (hE.types t ti hi);obtain rfl:=mM (hk.symm.trans g3);have hv:=hv c ac h3 h4;generalize GZ:ac.eval x=v at hv;cases hv with
  |d _ _ hv =>
   obtain⟨a,cap,rfl,kI,hd⟩:=WW hv;obtain⟨a',iV,e2,-,hd⟩:=Mf hd (lo:=n) (hi:=z.length) hn (ahL _) bP;cases e2;rw[akR]at hd;refine⟨_,?_,.d _ _ hd⟩;have e3:=eT (hy c ac h3 h4);have e4:=eT (hu c ac h3 h4);have e5:=eT (hm c ac h3 h4);have b1:=run_sliceBound (P:=E.P) c.w j2 z.length cap .slice3Acap oM oM;have b2:=run_sliceBound (P:=E.P) c.w j1 z.length z.length .slice3B oM oM;have b3:=run_sliceBound (P:=E.P) c.w j n z.length .slice3C oM oM;simp only[ai0]at b1 b2 b3;simp only[execOp,e1,GZ,e3,e4,e5,Instr.sliceAt,Instr.slice,Instr.sliceBounds,Sem.run_bind,Sem.run_pure,Result.andThen_ok,run_underlying g2,air,Option.isSome_some,if_true,b1,b2,b3,run_sizeOf (hE.types e ei b9)]
 rw[eW]at H;exact .of (.op (iF hg) ho H.to)
end Go.az
end
section
namespace Go.Proofs.YtlhehdgciafakaaGreatDoor.P
open Go Go.az Go.Sort Go.RowKit
def n0(x:Int × Int):List Value:=[.int .i64 x.1,.int .i64 x.2]
def lS(x:Int × Int):DV := .agg [.int .i64 x.1,.int .i64 x.2]
def Qf(P:Program)(f g:Nat)(key:Int × Int->Int):Prop:=∀ (blk cap:Nat) (d:Array (Int × Int)) (w:World),HoldsK n0 2 w blk 0 d->blk<w.heap.size->d.size<4611686018427387904 ->
 Calls P f #[.slice (some ⟨blk,0,none⟩) d.size cap,.func (.func g) #[] #[]] w fun e w'=>e=.returned (.tuple #[])/\∃ d' n os,PermIn 0 d.size d d'/\SortedIn (ltOf fun x y:Int × Int=>Lib.compareInt (key x) (key y)) 0 d.size d'/\w'=sortWorldK n0 2 w blk 0 n d' os
theorem EY(key:Int × Int->Int)(x y:Int × Int):ltOf (fun x y:Int × Int=>Lib.compareInt (key x) (key y)) x y=decide (key x<key y):=by
 unfold ltOf Lib.compareInt;by_cases h1:key x<key y
 ·simp[h1]
 ·by_cases h2:key y<key x<;>simp[h1,h2]
theorem Zt(key:Int × Int->Int):SWO (ltOf fun x y:Int × Int=>Lib.compareInt (key x) (key y)) where
 irrefl x:=by rw[EY];simp
 trans x y z h1 h2:=by rw[EY]at *;simp at *;omega
 ntrans x y z h1 h2:=by rw[EY]at *;simp at *;omega
theorem Qg(d:Array (Int × Int))(i:Nat)(x:Int × Int)(h:d[i]?=some x):(flatK n0 2 d)[i*2]! = .int .i64 x.1/\(flatK n0 2 d)[i*2+1]! = .int .i64 x.2:=by
 have hi:i<d.size:=by
  rcases ahs i d.size with h'|h'
  ·exact h'
  ·rw[akO h']at h;cases h
 have hx:d[i]! = x:=by simp[getElem!_pos d i hi];rw[ah2 hi]at h;exact Option.some.inj h
 constructor
 ·rw[get_flatK _ _ _ _ oM,show i*2 / 2=i by omega,show i*2 % 2=0 by omega,hx];rfl
 ·rw[get_flatK _ _ _ _ oM,show(i*2+1) / 2=i by omega,show(i*2+1) % 2=1 by omega,hx];rfl
theorem Zu{w:World}{blk n:Nat}{d:Array (Int × Int)}{os:Array Obj}{vs:Array Value}{ty:TypeId}(hb:w.heap[blk]?=some (.cells vs ty (0,0))) :
  let w':=sortWorldK n0 2 w blk 0 n d os
  w'.os=w.os/\w'.tape=w.tape/\w'.output=w.output/\w.heap.size<=w'.heap.size/\(∀ b,b<w.heap.size->b≠blk->w'.heap[b]?=w.heap[b]?)/\w'.heap[blk]?=some (.cells (putCells id 0 (flatK n0 2 d) vs) ty (0,0)):=by
 intro w';have ai:blk<w.heap.size:=by
  rcases ahs blk w.heap.size with h|h
  ·exact h
  ·rw[akO h]at hb;cases hb
 have bP:(putRowK n0 2 (Sort.ahead w n) blk 0 d).heap.size=w.heap.size:=by simp[putRowK,putRow,mapBlock]
 refine⟨rfl,rfl,rfl,?_,fun b cB aL=>?_,?_⟩
 ·show w.heap.size<=(grow _ os).heap.size;rw[size_grow,bP];omega
 ·show(grow _ os).heap[b]?=_;rw[heap_grow_old _ _ (by rw[bP];exact cB)];simp[putRowK,putRow,mapBlock,ahZ,Ne.symm aL]
 ·show(grow _ os).heap[blk]?=_;rw[heap_grow_old _ _ (by rw[bP];exact ai)];simp[putRowK,putRow,mapBlock,ahZ,hb,onCells]
theorem JL{bad:Nat->Prop}{w:World}{k:IntKind}{n:Int}{v:Value}(h:VD bad w (.int k n) v):v=.int k n:=by cases h;rfl
theorem Zv{E:Env}{f g:FuncId}{key:Int × Int->Int}{t:Nat}(hS:Qf E.P f g key)(fJ:mc E.P f)(l:List (Int × Int))(hl:l≠[])(hlen:l.length<4611686018427387904) :
  au E f [.arr 0 (t,2) (l.map lS)] [.own 0 0,.fn (.func g) [] []] (fun a b=>a=.aG []/\∃ l':List (Int × Int),l'.Perm l/\l'.Pairwise (fun x y=>key x<=key y)/\b=[.arr 0 (t,2) (l'.map lS)]):=by
 unfold au;refine⟨fJ,kR rfl,fun c vs h1 h2 h3=>?_⟩;obtain⟨v1,v2,rfl⟩:∃ v1 v2,vs=[v1,v2]:=by
  have:=h3.1
  match vs,this with
  |[a,b],_=>exact⟨a,b,rfl⟩
 have js:=h3.2 0 _ v1 rfl rfl;have mj:=h3.2 1 _ v2 rfl rfl;have dF:c.heap[0]?=some (.arr 0 (t,2) (l.map lS)):=by rw[h1];rfl
 obtain⟨u1,u2,rfl,e2,e3⟩:=mP mj;obtain rfl:u1=[]:=ahM (by have:=e2.1;simpa using this.symm);obtain rfl:u2=[]:=ahM (by have:=e3.1;simpa using this.symm);rcases lu dF js with⟨blk,cap,r1,rfl⟩|⟨lK,-,-⟩
 case inr=>exact absurd (akS.1 lK) hl
 obtain⟨q0,q1,q2⟩:=h2.box 0 _ dF;rcases q2 with⟨q2,-⟩|⟨jL,iV,vs',q2,q3,q4,q5,q6,q7⟩
 ·rw[r1]at q2;cases q2
 rw[r1]at q2;cases q2;simp only at q3 q4 q7;have dQ:∀ (i:Nat) (x:Int × Int),l[i]?=some x->vs'[i*2]?=some (.int .i64 x.1)/\vs'[i*2+1]?=some (.int .i64 x.2):=fun i x hx=>by
  have he:(l.map lS)[i]?=some (lS x):=by simp[hx]
  obtain⟨v,a1,a2,a3⟩:=q7 i 0 (lS x) (.int .i64 x.1) he rfl;obtain⟨v',b1,b2,b3⟩:=q7 i 1 (lS x) (.int .i64 x.2) he rfl;rw[JL a3]at a1;rw[JL b3]at b1;exact⟨a1,b1⟩
 have iG:l.toArray.size=l.length:=by simp
 have hH:HoldsK n0 2 c.w blk 0 l.toArray:=by
  intro j hj;simp only[size_flatK,iG]at hj;obtain⟨x,hx⟩:∃ x,l[j / 2]?=some x:=⟨l[j / 2]' oM,by rw[aiX]⟩;have dY:l.toArray[j / 2]?=some x:=zD hx
  obtain⟨f1,f2⟩:=Qg l.toArray (j / 2) x dY;obtain⟨c1,c2⟩:=dQ (j / 2) x hx;refine⟨?_,by simp[World.frozen?,q3]⟩;rcases Nat.mod_two_eq_zero_or_one j with hm|hm
  ·have ej:j / 2*2=j:=by omega
   rw[ej]at f1 c1;show _=some ((flatK n0 2 l.toArray)[j]!);rw[f1];exact mL q3 _ _ (zD c1)
  ·have ej:j / 2*2+1=j:=by omega
   rw[ej]at f2 c2;show _=some ((flatK n0 2 l.toArray)[j]!);rw[f2];exact mL q3 _ _ (zD c2)
 have hblk:=(h2.bD 0 blk cap r1).1;have iZ:=hS blk cap l.toArray c.w hH hblk (by rw[iG];exact hlen);rw[iG]at iZ;have kg:([Value.slice (some ⟨blk,0,none⟩) (l.map lS).length cap,.func (.func g) ([]:List Value).toArray ([]:List Value).toArray]:List Value).toArray = #[.slice (some ⟨blk,0,none⟩) l.length cap,.func (.func g) #[] #[]]:=by simp
 rw[kg];refine iZ.mono fun e w' ⟨he,d',n,os,hp,hs,hw⟩=>?_;subst he;obtain⟨p1,-,p3⟩:=hp;have fo:d'.size=l.length:=by rw[p1,iG]
 have pV:d'.toList.Perm l:=by
  have ex:∀ (a:Array (Int × Int)),a.size=l.length->(a.extract 0 l.length).toList=a.toList:=fun a ha=>by rw[<- ha,Array.extract_size]
  rw[ex d' fo,ex l.toArray iG]at p3
  simpa using p3
 have JM:d'.toList.Pairwise (fun x y=>key x<=key y):=by
  refine List.pairwise_iff_getElem.2 fun i j hi hj eC=>?_;have cu:i<d'.size:=zD hi
  have fh:j<d'.size:=zD hj
  have:=hs i j (ai4 _) eC oM;rw[EY,decide_eq_false_iff_not,getElem!_pos d' j fh,getElem!_pos d' i cu]at this;simp only[Array.getElem_toList];omega
 obtain⟨a1,a2,a3,a4,a5,a6⟩:=Zu (n:=n) (d:=d') (os:=os) q3;rw[<- hw]at a1 a2 a3 a4 a5 a6
 let c':Cx:={ c with heap:=[.arr 0 (t,2) (d'.toList.map lS)],w:=w' }
 have bW:∀ i bx,c.heap[i]?=some bx->i=0/\bx=.arr 0 (t,2) (l.map lS):=fun i bx hi=>by
  rw[h1]at hi;cases i with
  |zero=>simp at hi;exact⟨rfl,hi.symm⟩
  |succ i=>simp at hi
 have mS:(d'.toList.map lS).length=(l.map lS).length:=by simp[fo]
 have bc:az.Step c c':=⟨rfl,h2.bV,a1,a2,a3,a4,fun b hb hn=>a5 b hb (fun e=>by subst e;exact hn 0 cap r1),fun i b n hi _=>⟨n,hi⟩,fun i bx hi=>by
  obtain⟨rfl,rfl⟩:=bW i bx hi
  exact .inl ⟨0,_,rfl,.inr ⟨rfl,mS,rfl⟩⟩⟩
 have aV:aO E.G c':=h2.next bc (fun i b n hi=>by
   have:=h2.bD i b n hi;refine⟨ahD this.1 a4,?_⟩;have h0:c.heap.length=1:=by rw[h1];rfl
   show i<1;omega) h2.inj (fun i bx hi=>by
  right;cases i with
  |succ i=>simp[c']at hi
  |zero =>
   simp[c']at hi;subst hi;refine⟨q0,fun i e he=>?_,.inr ⟨blk,cap,_,r1,a6,?_,?_,q6,fun i j e x he hx=>?_⟩⟩
   ·simp only[ahy]at he;cases hq:d'.toList[i]? with
    |none=>rw[hq]at he;cases he
    |some y=>rw[hq]at he;cases he;rfl
   ·simp[putCells,q4]
   ·rw[mS];exact q5
   ·simp only[ahy]at he;cases hq:d'.toList[i]? with
    |none=>rw[hq]at he;cases he
    |some y =>
     rw[hq]at he;cases he;have hi:i<l.length:=by have:=aW hq;simpa [fo]using this
     have yF:d'[i]?=some y:=zD hq
     obtain⟨f1,f2⟩:=Qg d' i y yF;have fw:vs'.size=cap*2:=q4;have dR:(l.map lS).length=l.length:=by simp
     have la:l.length<=cap:=by rw[<- dR];exact q5
     have at_:∀ k,k<2->(putCells id 0 (flatK n0 2 d') vs')[i*2+k]?=some ((flatK n0 2 d')[i*2+k]!):=fun k hk=>by
      have h5:i*2+k<vs'.size:=by omega
      simp only[putCells,akT,ah2 h5,air];rw[if_pos ⟨ai4 _,by rw[size_flatK,fo];omega⟩];rfl
     match j with
     |0 =>
      simp[lS,DV.cells]at hx;subst hx;exact⟨_,(at_ 0 oM).trans (congrArg some f1),rfl,.int _ _⟩
     |1 =>
      simp[lS,DV.cells]at hx;subst hx;exact⟨_,(at_ 1 oM).trans (congrArg some f2),rfl,.int _ _⟩
     |j+2=>simp[lS,DV.cells]at hx)
 refine⟨c',.aG [],.tuple #[],rfl,rfl,⟨rfl,d'.toList,pV,JM,rfl⟩,.aG [] #[] rfl (fun j x v hx=>by simp at hx),aV,?_⟩
 exact⟨rfl,a1,a2,a3,a4,fun b hb hn=>a5 b hb (fun e=>by subst e;exact hn 0 cap r1),fun i b n hi _=>⟨n,hi⟩,fun i bx hi=>by
  obtain⟨rfl,rfl⟩:=bW i bx hi
  exact .inl ⟨0,_,rfl,.inr ⟨rfl,mS,rfl⟩⟩⟩
def iw(l:List Int):List Int:=l.mergeSort fun x y=>decide (x<=y)
theorem xJ(l:List Int):(iw l).Perm l:=List.mergeSort_perm ..
theorem J9(l:List Int):(iw l).Pairwise (· <= ·):=by
 have:=List.pairwise_mergeSort (le:=fun x y=>decide (x<=y)) (by intro a b c;simp;omega) (by intro a b;simp;omega) l;exact this.imp fun{a b} h=>zD h
def Rc(P:Program)(f:Nat):Prop:=∀ (blk cap:Nat) (zs:List Int) (w:World),Holds (Value.int .i64) w blk 0 zs.toArray->blk<w.heap.size->zs.length<4611686018427387904 ->
 Calls P f #[.slice (some ⟨blk,0,none⟩) zs.length cap] w fun e w'=>e=.returned (.tuple #[])/\∃ n os,w'=grow (putRow (Value.int .i64) (Sort.ahead w n) blk 0 (iw zs).toArray) os
theorem abo{w:World}{blk n:Nat}{d:Array Int}{os:Array Obj}{vs:Array Value}{ty:TypeId}(hb:w.heap[blk]?=some (.cells vs ty (0,0))) :
  let w':=grow (putRow (Value.int .i64) (Sort.ahead w n) blk 0 d) os
  w'.os=w.os/\w'.tape=w.tape/\w'.output=w.output/\w.heap.size<=w'.heap.size/\(∀ b,b<w.heap.size->b≠blk->w'.heap[b]?=w.heap[b]?)/\w'.heap[blk]?=some (.cells (putCells (Value.int .i64) 0 d vs) ty (0,0)):=by
 intro w';have ai:blk<w.heap.size:=by
  rcases ahs blk w.heap.size with h|h
  ·exact h
  ·rw[akO h]at hb;cases hb
 have bP:(putRow (Value.int .i64) (Sort.ahead w n) blk 0 d).heap.size=w.heap.size:=by simp[putRow,mapBlock]
 refine⟨rfl,rfl,rfl,?_,fun b cB aL=>?_,?_⟩
 ·show w.heap.size<=(grow _ os).heap.size;rw[size_grow,bP];omega
 ·show(grow _ os).heap[b]?=_;rw[heap_grow_old _ _ (by rw[bP];exact cB)];simp[putRow,mapBlock,ahZ,Ne.symm aL]
 ·show(grow _ os).heap[blk]?=_;rw[heap_grow_old _ _ (by rw[bP];exact ai)];simp[putRow,mapBlock,ahZ,hb,onCells]
theorem abp{E:Env}{f:FuncId}{t:Nat}(hS:Rc E.P f)(fJ:mc E.P f)(l:List Int)(hl:l≠[])(hlen:l.length<4611686018427387904) :
  au E f [.arr 0 (t,1) (l.map (DV.int .i64))] [.own 0 0] (fun a b=>a=.aG []/\b=[.arr 0 (t,1) ((iw l).map (DV.int .i64))]):=by
 unfold au;refine⟨fJ,kR rfl,fun c vs h1 h2 h3=>?_⟩;obtain⟨v1,rfl⟩:∃ v1,vs=[v1]:=by
  have:=h3.1
  match vs,this with
  |[a],_=>exact⟨a,rfl⟩
 have js:=h3.2 0 _ v1 rfl rfl;have dF:c.heap[0]?=some (.arr 0 (t,1) (l.map (DV.int .i64))):=by rw[h1];rfl
 rcases lu dF js with⟨blk,cap,r1,rfl⟩|⟨lK,-,-⟩
 case inr=>exact absurd (akS.1 lK) hl
 obtain⟨q0,q1,q2⟩:=h2.box 0 _ dF;rcases q2 with⟨q2,-⟩|⟨jL,iV,vs',q2,q3,q4,q5,q6,q7⟩
 ·rw[r1]at q2;cases q2
 rw[r1]at q2;cases q2;simp only at q3 q4 q7;have dQ:∀ (i:Nat) (x:Int),l[i]?=some x->vs'[i]?=some (.int .i64 x):=fun i x hx=>by
  have he:(l.map (DV.int .i64))[i]?=some (DV.int .i64 x):=by simp[hx]
  obtain⟨v,a1,a2,a3⟩:=q7 i 0 (DV.int .i64 x) (.int .i64 x) he rfl;rw[JL a3]at a1
  simpa using a1
 have hH:Holds (Value.int .i64) c.w blk 0 l.toArray:=by
  intro j hj;have fh:j<l.length:=zD hj
  obtain⟨x,hx⟩:∃ x,l[j]?=some x:=⟨l[j]' oM,by rw[aiX]⟩;have yp:l.toArray[j]! = x:=by
   rw[getElem!_pos l.toArray j (zD fh)];have:=akz.1 hx
   simpa using this.2
  refine⟨?_,by simp[World.frozen?,q3]⟩;rw[yp];exact mL q3 _ _ (zD (dQ j x hx))
 have hblk:=(h2.bD 0 blk cap r1).1;have iZ:=hS blk cap l c.w hH hblk hlen;have kg:([Value.slice (some ⟨blk,0,none⟩) (l.map (DV.int .i64)).length cap]:List Value).toArray = #[.slice (some ⟨blk,0,none⟩) l.length cap]:=by simp
 rw[kg];refine iZ.mono fun e w' ⟨he,n,os,hw⟩=>?_;subst he;have fo:(iw l).length=l.length:=(xJ l).length_eq;obtain⟨a1,a2,a3,a4,a5,a6⟩:=abo (n:=n) (d:=(iw l).toArray) (os:=os) q3;rw[<- hw]at a1 a2 a3 a4 a5 a6
 let c':Cx:={ c with heap:=[.arr 0 (t,1) ((iw l).map (DV.int .i64))],w:=w' }
 have bW:∀ i bx,c.heap[i]?=some bx->i=0/\bx=.arr 0 (t,1) (l.map (DV.int .i64)):=fun i bx hi=>by
  rw[h1]at hi;cases i with
  |zero=>simp at hi;exact⟨rfl,hi.symm⟩
  |succ i=>simp at hi
 have mS:((iw l).map (DV.int .i64)).length=(l.map (DV.int .i64)).length:=by simp[fo]
 have bc:az.Step c c':=⟨rfl,h2.bV,a1,a2,a3,a4,fun b hb hn=>a5 b hb (fun e=>by subst e;exact hn 0 cap r1),fun i b n hi _=>⟨n,hi⟩,fun i bx hi=>by
  obtain⟨rfl,rfl⟩:=bW i bx hi
  exact .inl ⟨0,_,rfl,.inr ⟨rfl,mS,rfl⟩⟩⟩
 have aV:aO E.G c':=h2.next bc (fun i b n hi=>by
   have:=h2.bD i b n hi;refine⟨ahD this.1 a4,?_⟩;have h0:c.heap.length=1:=by rw[h1];rfl
   show i<1;omega) h2.inj (fun i bx hi=>by
  right;cases i with
  |succ i=>simp[c']at hi
  |zero =>
   simp[c']at hi;subst hi;refine⟨q0,fun i e he=>?_,.inr ⟨blk,cap,_,r1,a6,?_,?_,q6,fun i j e x he hx=>?_⟩⟩
   ·simp only[ahy]at he;cases hq:(iw l)[i]? with
    |none=>rw[hq]at he;cases he
    |some y=>rw[hq]at he;cases he;rfl
   ·simp[putCells,q4]
   ·rw[mS];exact q5
   ·simp only[ahy]at he;cases hq:(iw l)[i]? with
    |none=>rw[hq]at he;cases he
    |some y =>
     rw[hq]at he;cases he;have hi:i<l.length:=by have:=aW hq;omega
     have fw:vs'.size=cap*1:=q4;have dR:(l.map (DV.int .i64)).length=l.length:=by simp
     have la:l.length<=cap:=by rw[<- dR];exact q5
     have hy:(iw l).toArray[i]! = y:=by
      rw[getElem!_pos (iw l).toArray i (by simp;omega)];have:=akz.1 hq
      simpa using this.2
     have at_:(putCells (Value.int .i64) 0 (iw l).toArray vs')[i]?=some (.int .i64 y):=by
      have h5:i<vs'.size:=by omega
      simp only[putCells,akT,ah2 h5,air];rw[if_pos ⟨ai4 _,by simp;omega⟩,Nat.sub_zero,hy]
     match j with
     |0 =>
      simp[DV.cells]at hx;subst hx;exact⟨_,zD at_,rfl,.int _ _⟩
     |j+1=>simp[DV.cells]at hx)
 refine⟨c',.aG [],.tuple #[],rfl,rfl,⟨rfl,rfl⟩,.aG [] #[] rfl (fun j x v hx=>by simp at hx),aV,?_⟩
 exact⟨rfl,a1,a2,a3,a4,fun b hb hn=>a5 b hb (fun e=>by subst e;exact hn 0 cap r1),fun i b n hi _=>⟨n,hi⟩,fun i bx hi=>by
  obtain⟨rfl,rfl⟩:=bW i bx hi
  exact .inl ⟨0,_,rfl,.inr ⟨rfl,mS,rfl⟩⟩⟩
end Go.Proofs.YtlhehdgciafakaaGreatDoor.P
end
section
namespace Go.Proofs
open Go.Shelf
def Tryz.acf:Go.Shelf.Ren:=⟨fun|137=>292|217=>329|266=>343|n=>n,fun|9=>9|5=>5|3=>3|n=>n,fun|n=>n⟩
theorem Tryz.acg:Go.Proofs.Lays.n137 Tryz.prog Tryz.acf:={
 mixed:=by kernel_rfl
 f137:=Tryz.func292.trans (congrArg some (by kernel_rfl))
 f217:=Tryz.func329.trans (congrArg some (by kernel_rfl))
 f266:=Tryz.func343.trans (congrArg some (by kernel_rfl))
 t3:=Tryz.underlying3
 a3:=Tryz.isAgg3
 z3:=Tryz.sizeOf3
 v3:=Tryz.zeroValue3
 t5:=Tryz.underlying5
 a5:=Tryz.isAgg5
 z5:=Tryz.sizeOf5
 v5:=Tryz.zeroValue5
 t9:=Tryz.underlying9
 a9:=Tryz.isAgg9
 z9:=Tryz.sizeOf9
 v9:=Tryz.zeroValue9 }
def Tryz.RF:Go.Shelf.Ren:=⟨fun|156=>333|165=>344|166=>345|169=>346|240=>348|241=>349|276=>350|277=>351|n=>n,fun|31=>128|9=>9|3=>3|4=>4|0=>0|20=>20|72=>368|76=>305|70=>366|37=>105|75=>249|127=>369|164=>370|5=>5|80=>288|n=>n,fun|n=>n⟩
theorem Tryz.Fi:Go.Proofs.Lays.n156 Tryz.prog Tryz.RF:={
 mixed:=by kernel_rfl
 f156:=Tryz.func333.trans (congrArg some (by kernel_rfl))
 f165:=Tryz.func344.trans (congrArg some (by kernel_rfl))
 f166:=Tryz.func345.trans (congrArg some (by kernel_rfl))
 f169:=Tryz.func346.trans (congrArg some (by kernel_rfl))
 f240:=Tryz.func348.trans (congrArg some (by kernel_rfl))
 f241:=Tryz.func349.trans (congrArg some (by kernel_rfl))
 f276:=Tryz.func350.trans (congrArg some (by kernel_rfl))
 f277:=Tryz.func351.trans (congrArg some (by kernel_rfl))
 t0:=Tryz.underlying0
 a0:=Tryz.isAgg0
 z0:=Tryz.sizeOf0
 v0:=Tryz.zeroValue0
 t3:=Tryz.underlying3
 a3:=Tryz.isAgg3
 z3:=Tryz.sizeOf3
 v3:=Tryz.zeroValue3
 t4:=Tryz.underlying4
 a4:=Tryz.isAgg4
 z4:=Tryz.sizeOf4
 v4:=Tryz.zeroValue4
 t9:=Tryz.underlying9
 a9:=Tryz.isAgg9
 z9:=Tryz.sizeOf9
 v9:=Tryz.zeroValue9
 t20:=Tryz.underlying20
 a20:=Tryz.isAgg20
 z20:=Tryz.sizeOf20
 v20:=Tryz.zeroValue20
 t31:=Tryz.underlying128
 a31:=Tryz.isAgg128
 z31:=Tryz.sizeOf128
 v31:=Tryz.zeroValue128
 t37:=Tryz.underlying105
 a37:=Tryz.isAgg105
 z37:=Tryz.sizeOf105
 v37:=Tryz.zeroValue105
 t70:=Tryz.underlying366
 a70:=Tryz.isAgg366
 z70:=Tryz.sizeOf366
 v70:=Tryz.zeroValue366
 t72:=Tryz.underlying368
 a72:=Tryz.isAgg368
 z72:=Tryz.sizeOf368
 v72:=Tryz.zeroValue368
 t75:=Tryz.underlying249
 a75:=Tryz.isAgg249
 z75:=Tryz.sizeOf249
 v75:=Tryz.zeroValue249
 t76:=Tryz.underlying305
 a76:=Tryz.isAgg305
 z76:=Tryz.sizeOf305
 v76:=Tryz.zeroValue305
 t127:=Tryz.underlying369
 a127:=Tryz.isAgg369
 z127:=Tryz.sizeOf369
 v127:=Tryz.zeroValue369
 t164:=Tryz.underlying370
 a164:=Tryz.isAgg370
 z164:=Tryz.sizeOf370
 v164:=Tryz.zeroValue370 }
theorem Tryz.Fj:Builder.Extra Tryz.prog Tryz.RF:={
 sizeBuilder:=by kernel_rfl
 liesBuilder:=by kernel_rfl
 t5:=Tryz.underlying5
 a5:=Tryz.isAgg5
 z5:=Tryz.sizeOf5
 v5:=Tryz.zeroValue5
 infoByte:=by kernel_rfl
 cellsByte:=by kernel_rfl
 sizeByte:=by kernel_rfl
 neB5:=by decide }
end Go.Proofs
end
