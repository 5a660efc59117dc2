/- Lemmas of mine. Conditions: as stated. -/
import Derived.Test.YtfmdaiojokniiaaGreatDoorU3
import Derived.Test.YtfmdaiojokniiaaGreatDoorU4
import Derived.Shelf.SlSortCmp.WholeK
import Derived.Shelf.SlicesG.Cmp
import Derived.Shelf.SortM.Plain
import Derived.Shelf.Slices.CompactI
import Derived.Ground.SlgmProg
import Derived.Ground.Names2Prog
import Derived.Ground.SlsfProg
import Derived.Ground.SlgcProg
import Derived.Test.YtfmdaiojokniiaaGreatDoorProg
import Derived.Shelf.Bytes.WriteByteAt
import Derived.Ground.NamesProg
set_option linter.unusedVariables false
set_option linter.unusedSimpArgs false
section
namespace Go.Proofs.YtfmdaiojokniiaaGreatDoor.Nm
def split:List UInt8->List (List UInt8)
 |[]=>[[]]
 |c::r=>if c=46 then[]::split r else match split r with
  |[]=>[[c]]
  |h::t=>(c::h)::t
theorem n'(l:List UInt8):split l≠[]:=by
 cases l with
 |nil=>simp[split]
 |cons c r=>simp only[split];split<;>(try split)<;>simp
theorem pG(c:UInt8)(r:List UInt8)(h:c≠46):∃ x t,split r=x::t/\split (c::r)=(c::x)::t:=by
 have:=n' r
 match hr:split r,this with
 |x::t,_=>exact⟨x,t,rfl,by simp[split,h,hr]⟩
theorem B6(a b:List UInt8):split (a++46::b)=split a++split b:=by
 induction a with
 |nil=>simp[split]
 |cons c r ih =>
  by_cases h:c=46
  ·subst h;simp[split,ih]
  ·obtain⟨x,t,h1,h2⟩:=pG c r h;obtain⟨y,u,h3,h4⟩:=pG c (r++46::b) h;rw[List.cons_append,h4,h2];rw[ih,h1]at h3;simp only[List.cons_append,List.cons.injEq]at h3;obtain⟨rfl,rfl⟩:=h3;rfl
theorem B7(l:List UInt8)(h:46 ∉ l):split l=[l]:=by
 induction l with
 |nil=>rfl
 |cons c r ih =>
  simp only[List.mem_cons,not_or]at h;have hc:c≠46:=fun e=>h.1 e.symm;simp[split,hc,ih h.2]
theorem Sb(l:List UInt8):split (l++[46])=split l++[[]]:=B6 l []
theorem Sc(l:List UInt8)(c:UInt8)(h:c≠46):∃ i x,split l=i++[x]/\split (l++[c])=i++[x++[c]]:=by
 induction l with
 |nil=>exact⟨[],[],rfl,by simp[split,h]⟩
 |cons d r ih =>
  obtain⟨i,x,h1,h2⟩:=ih;by_cases hd:d=46
  ·subst hd;exact⟨[]::i,x,by simp[split,h1],by simp[split,h2]⟩
  ·obtain⟨y,u,h3,h4⟩:=pG d r hd;obtain⟨z,v,h5,h6⟩:=pG d (r++[c]) hd;rw[h1]at h3;rw[h2]at h5;rw[List.cons_append,h6,h4];cases i with
   |nil =>
    simp only[List.nil_append,List.cons.injEq]at h3 h5;obtain⟨rfl,rfl⟩:=h3;obtain⟨rfl,rfl⟩:=h5;exact⟨[],d::x,rfl,rfl⟩
   |cons p q =>
    simp only[List.cons_append,List.cons.injEq]at h3 h5;obtain⟨rfl,rfl⟩:=h3;obtain⟨rfl,rfl⟩:=h5;exact⟨(d::p)::q,x,rfl,rfl⟩
theorem Kz(l:List UInt8):∀ x∈split l,46 ∉ x:=by
 induction l with
 |nil=>simp[split]
 |cons c r ih =>
  by_cases hc:c=46
  ·subst hc;simp only[split,if_true];intro x hx;rcases List.mem_cons.1 hx with rfl|h
   ·simp
   ·exact ih x h
  ·obtain⟨y,u,h1,h2⟩:=pG c r hc;rw[h2];intro x hx;rcases List.mem_cons.1 hx with rfl|h
   ·simp only[List.mem_cons,not_or];exact⟨fun e=>hc e.symm,ih y (by rw[h1];simp)⟩
   ·exact ih x (by rw[h1];simp[h])
def glue:List (List UInt8)->List UInt8
 |[]=>[]
 |[x]=>x
 |x::y::t=>x++46::glue (y::t)
theorem uG(l:List UInt8):glue (split l)=l:=by
 induction l with
 |nil=>rfl
 |cons c r ih =>
  by_cases hc:c=46
  ·subst hc;simp only[split,if_true];have:=n' r
   match hr:split r,this with
   |x::t,_=>rw[hr]at ih;simp[glue,ih]
  ·obtain⟨y,u,h1,h2⟩:=pG c r hc;rw[h2];rw[h1]at ih;cases u with
   |nil=>simp only[glue]at ih ⊢;rw[ih]
   |cons z v=>simp only[glue,List.cons_append]at ih ⊢;rw[ih]
theorem KA(ls:List (List UInt8))(aI:ls≠[])(h:∀ x∈ls,46 ∉ x):split (glue ls)=ls:=by
 induction ls with
 |nil=>exact absurd rfl aI
 |cons x t ih =>
  cases t with
  |nil=>exact B7 x (h x (by simp))
  |cons y u =>
   simp only[glue];rw[B6,B7 x (h x (by simp)),ih (by simp) (fun z hz=>h z (by simp[hz]))];rfl
theorem KB(a b:List UInt8)(h:split a=split b):a=b:=by rw[<- uG a,<- uG b,h]
def FI(c:UInt8):Bool:=(decide (97<=c.toNat)&&decide (c.toNat<=122))||(decide (48<=c.toNat)&&decide (c.toNat<=57))
def pH(l:List UInt8)(i:Nat):Bool:=match l[i]? with
 |some c=>FI c||(c==45&&decide (0<i)&&decide (i+1<l.length))
 |none=>true
def label(l:List UInt8):Bool:=decide (1<=l.length/\l.length<=12/\∀ i,i<l.length->pH l i=true)
def parts(ls:List (List UInt8)):Bool:=decide (ls.length<=8)&&(match ls with
 |[]=>true
 |x::t=>(label x||x==[42])&&t.all label)
def valid(l:List UInt8):Bool:=decide (l=[46])||(decide (l.length<=60)&&parts (split l))
def labels(l:List UInt8):List (List UInt8):=if l=[46]then[]else split l
def under(s z:List UInt8):Bool:=decide (labels z <:+ labels s)
def ia(l:List UInt8):Bool:=match l with
 |c::_=>c==42
 |[]=>false
end Go.Proofs.YtfmdaiojokniiaaGreatDoor.Nm
end
section
namespace Go.ay
open Go Go.RowKit
def KL(H:List af)(r:AV):Bool:=FG H.length [] H&&hY H.length [] r
theorem ar.qO{E:Env}{f:FuncId}{H H1:List af}{args:List AV}{r0:AV}(hc:ar E f H args (fun a b=>a=r0/\b=H1))(hr:kK H.length [] 0 H1=H)(hk:KL H r0=true):ar E f H args (fun a b=>a=r0/\b=H):=by
 simp only[KL,Bool.and_eq_true]at hk;obtain⟨dA,hv⟩:=hk;unfold ar at hc ⊢;refine⟨hc.1,hc.2.1,fun c vs h1 h2 h3=>(hc.2.2 c vs h1 h2 h3).mono fun e w' ⟨c',r,v,k1,k2,⟨k3,zG⟩,k4,k5,k6⟩=>?_⟩;subst k3;have a1:=k5.ga (n:=H.length) (B:=[]) (by rw[zG,hr];exact dA);have a2:=B4 (n:=H.length) (B:=[]) hv k4;obtain⟨b1,b2⟩:=a1.Ky (az:=c'.az) (fun b hb => .inl hb);refine⟨⟨(c'.ga H.length []).own,(c'.ga H.length []).heap,c'.az,c'.w⟩,r,v,k1,k2,⟨rfl,by show kK _ _ 0 c'.heap=H;rw[zG,hr]⟩,b2 _ _ a2,b1,?_⟩;have hid:∀ i,i<H.length->dG H.length [] i=false:=fun i hi=>by
  have:Nat.ble H.length i=false:=by
   cases q:Nat.ble H.length i
   ·rfl
   ·have:=Nat.le_of_ble_eq_true q;omega
  simp only[dG,this];rfl
 exact{
  az:=k6.az
  os:=k6.os
  tape:=k6.tape
  output:=k6.output
  size:=k6.size
  keep:=k6.keep
  dy:=fun i b n hi hb=>k6.dy i b n (uF hi).2 hb
  boxes:=fun i bx hi=>by
   have ah:i<H.length:=by rw[<- h1];exact aQ hi
   have e1:(kK H.length [] 0 c'.heap)[i]?=c'.heap[i]? := xj 0 i c'.heap (by rw[Nat.zero_add];exact hid i ah)
   exact uH (c:=c') (fun x hx=>e1.trans hx) (fun x _=>zD (hid i ah)) (k6.boxes i bx hi) }
theorem pL{G:List (Nat × DV)}{s:List AV}{f:FuncId}:aZ G s (.func f) (.fn (.func f) [] []):=fun c a _ _=>by
 have:a.eval (.func f)=.func (.func f) #[] #[]:=rfl;rw[this];exact .fn _ [] [] #[] #[] rfl rfl (fun j x v hx=>by simp at hx) (fun j x v hx=>by simp at hx)
theorem Sk{G:List (Nat × DV)}{s:List AV}{k:IntKind}{n:Int}:aZ G s (.const (.int k n)) (.d (.int k n)):=fun c a _ _ => .d _ _ (.int _ _)
theorem Sl{G:List (Nat × DV)}{s:List AV}:jn G s [] []:=fun c a _ _ => .nil
theorem KM{G:List (Nat × DV)}{s:List AV}{x:Operand}{v:AV}{xs:List Operand}{vs:List AV}(h:aZ G s x v)(k:jn G s xs vs):jn G s (x::xs) (v::vs):=fun c a h3 h4=>VL.cons (h c a h3 h4) (k c a h3 h4)
theorem ml{G:List (Nat × DV)}{s:List AV}{x:Operand}{v:AV}(h:aZ G s x v):jn G s [x] [v]:=KM h Sl
theorem sN{G:List (Nat × DV)}{s:List AV}{x y:Operand}{v w:AV}(h:aZ G s x v)(k:aZ G s y w):jn G s [x,y] [v,w]:=KM h (ml k)
end Go.ay
end
section
namespace Go.Proofs.YtfmdaiojokniiaaGreatDoor.P
open Go Go.ay
theorem kL{α:Type}{f:α->DV}{l:List α}{k:Nat}{x:α}(hx:l[k]?=some x):(l.map f)[((k:Nat):Int).toNat]?=some (f x):=by
 simp[hx]
theorem aG{α:Type}{l:List α}{k:Nat}(h:k<l.length):∃ x,l[k]?=some x:=⟨l[k],by simp[h]⟩
theorem cK{α:Type}{l:List α}{k:Nat}{x:α}(h:l[k]?=some x):l.take (k+1)=l.take k++[x]:=by
 rw[List.take_add_one,h];rfl
def sO(l:List DV)(n:Int)(e:DV):Prop:=0<=n/\l[n.toNat]?=some e
theorem aB{l:List DV}{sz:Nat}{n:Int}{K:DV->Prop}{e:DV}(h:sO l n e)(hs:e.cells.length=sz)(k:K e):se l sz n K:=eM e h.1 h.2 hs k
theorem aN{α:Type}{f:α->DV}{l:List α}{k:Nat}{x:α}(h:l[k]?=some x):sO (l.map f) (k:Int) (f x):=⟨by omega,kL h⟩
theorem sP{α:Type}{f:α->DV}{l:List α}{x:α}(h:l[0]?=some x):sO (l.map f) 0 (f x):=⟨by omega,by simp[h]⟩
theorem nh{α:Type}{f:α->DV}{l:List α}{k:Nat}{x:α}(h:l[k-1]?=some x)(h0:0<k)(hb:k<=4294967296):sO (l.map f) (IntKind.i64.wrap ((k:Int)-1)) (f x):=by
 have:IntKind.i64.wrap ((k:Int)-1)=((k-1:Nat):Int):=by rw[wrap64 (by omega) (by omega)];omega
 rw[this];exact aN h
theorem at_next{α:Type}{f:α->DV}{l:List α}{k:Nat}{x:α}(h:l[k+1]?=some x)(hb:k<=4294967296):sO (l.map f) (IntKind.i64.wrap ((k:Int)+1)) (f x):=by
 have:IntKind.i64.wrap ((k:Int)+1)=((k+1:Nat):Int):=by rw[wrap64 (by omega) (by omega)];omega
 rw[this];exact aN h
theorem dO{l:Text}(h:Nm.valid l=true):l.length<=60:=by
 simp only[Nm.valid,Bool.or_eq_true,decide_eq_true_eq,Bool.and_eq_true]at h;rcases h with rfl|h
 ·simp
 ·exact h.1
theorem Sm{a b:Prop}(k:b)(h:a:=by first|with_reducible rfl|exact congrArg (DV.int .i64) (by omega)|exact congrArg (DV.int .i64) (wrap64 (by omega) (by omega))|exact congrArg (DV.int .i64) ((wrap64 (by omega) (by omega)).trans (by omega))):a/\b:=⟨h,k⟩
theorem FO{P:Prop}(h:P:=by(conv=>whnf);repeat (first|exact trivial|(refine Sm ?_;conv=>whnf))):P:=h
theorem KN{α:Type}[DecidableEq α]:∀ {l U:List α},l.Nodup->(∀ x∈l,x∈U)->l.length<=U.length
 |[],_,_,_=>by simp
 |x::l,U,h,hs=>by
  rw[List.nodup_cons]at h;have h1:=KN (U:=U.erase x) h.2 fun y hy=>by
   have:y≠x:=fun e=>h.1 (e ▸ hy);exact(List.mem_erase_of_ne this).2 (hs y (List.mem_cons_of_mem _ hy))
  have h2:=List.length_erase_of_mem (hs x (List.mem_cons_self ..));have h3:=List.length_pos_of_mem (hs x (List.mem_cons_self ..));simp;omega
end Go.Proofs.YtfmdaiojokniiaaGreatDoor.P
end
section
namespace Go.Proofs.YtfmdaiojokniiaaGreatDoor.P
open Go Go.ay
set_option maxRecDepth 100000
set_option maxHeartbeats 4000000
theorem Cd{t:Text}{k:Nat}(hk:k<t.length)(h:¬ Nm.pH t k=true):Nm.label t=false:=by
 simp only[Nm.label,decide_eq_false_iff_not];exact fun e=>h (e.2.2 k hk)
theorem Ce{t:Text}{k:Nat}{c:UInt8}(hc:t[k]?=some c):Nm.pH t k=true↔(97<=c.toNat/\c.toNat<=122)\/(48<=c.toNat/\c.toNat<=57)\/(c.toNat=45/\0<k/\k+1<t.length):=by
 have:c=45↔c.toNat=45:=⟨fun e=>by rw[e];rfl,fun e=>UInt8.toNat_inj.1 e⟩;simp[Nm.pH,hc,Nm.FI,this,or_assoc,and_assoc]
theorem Sn(t:Text)(ht:t.length<=maxLen):aq E 147 [.str t] (· = .bool (Nm.label t)):=by
 unfold maxLen at ht;refine eP F147 ?_;refine I.loop (κ:=Nat) (rg 2 44) (fun k=>[(3,.d (.int .i64 k))]) (fun _=>[]) (fun k=>k<=t.length/\∀ i,i<k->Nm.pH t i=true) (fun k=>t.length-k) 0 ⟨Nat.zero_le _,by omega⟩ ?_ ?_
 ·exact sZ
 rintro k ⟨hk,aJ⟩ IH;refine I.head ab F147 2000 ?_;(conv=>whnf);refine ai (fun h5=>?_) (fun h5=>?_)
 ·have ah:k<t.length:=by simpa using h5
  obtain⟨c,hc⟩:=aG ah;have sQ:=Ce hc;have back:Nm.pH t k=true->_:=fun e=>IH (k+1) ⟨ah,fun i hi=>(Nat.lt_succ_iff_lt_or_eq.1 hi).elim (aJ i) (fun h=>h ▸ e)⟩ (by omega);have hw:IntKind.i64.wrap ((t.length:Int)-1)=(t.length:Int)-1:=wrap64 (by omega) (by omega);refine gO F147 ?_;refine kD c (by omega) (by rw[Int.toNat_natCast];exact hc) ?_;repeat' (first|with_reducible(first|refine cY ?_|refine cN ?_|refine ai (fun _=>?_) (fun _=>?_))|refine gA F147 ?_|refine gB ?_|with_reducible rfl)
  all_goals try (refine I.run ab F147 2000 ?_;conv=>whnf)
  all_goals simp only[decide_eq_true_eq,decide_eq_false_iff_not,beq_iff_eq,beq_eq_false_iff_ne,Bool.not_eq_true',Bool.not_eq_false',hw]at *
  all_goals first
   |(rw[Cd ah (by rw[sQ];omega)];done)
   |(refine I.back (back (by rw[sQ];omega)) ?_;exact FO)
 ·have aA:k=t.length:=by have:=of_decide_eq_false h5;omega
  subst aA;refine gO F147 ?_;have e:Nm.label t=decide (1<=t.length/\t.length<=12):=by
   simp only[Nm.label];exact decide_eq_decide.2 ⟨fun h=>⟨h.1,h.2.1⟩,fun h=>⟨h.1,h.2,aJ⟩⟩
  rw[e];repeat' (first|with_reducible(first|refine cY ?_|refine cN ?_|refine ai (fun _=>?_) (fun _=>?_))|refine gA F147 ?_|refine gB ?_|with_reducible rfl)
  all_goals (refine congrArg DV.bool ?_;rw[Bool.eq_iff_iff];simp_all<;>omega)
theorem Sp{t:Text}{k:Nat}{c:UInt8}(hc:t[k]?=some c)(h:c=46):Nm.split (t.take (k+1))=Nm.split (t.take k)++[[]]:=by
 rw[cK hc,h,Nm.Sb]
theorem Sq{t:Text}{k:Nat}{c:UInt8}(hc:t[k]?=some c)(h:c≠46){i:List Text}{x:Text}(e:Nm.split (t.take k)=i++[x]):Nm.split (t.take (k+1))=i++[x++[c]]:=by
 obtain⟨j,y,h1,h2⟩:=Nm.Sc (t.take k) c h;rw[e]at h1;obtain⟨rfl,h3⟩:=List.append_inj' h1 rfl;cases h3;rw[cK hc,h2]
theorem FP(t:Text):(Nm.split t).length<=t.length+1:=by
 induction t with
 |nil=>simp[Nm.split]
 |cons c r ih =>
  by_cases hc:c=46
  ·subst hc;simp[Nm.split];omega
  ·obtain⟨x,u,h1,h2⟩:=Nm.pG c r hc;rw[h2];rw[h1]at ih;simp at ih ⊢;omega
theorem KO(t:Text):∀ x∈Nm.split t,x.length<=t.length:=by
 induction t with
 |nil=>simp[Nm.split]
 |cons c r ih =>
  intro x hx;by_cases hc:c=46
  ·subst hc;simp only[Nm.split,if_true]at hx;rcases List.mem_cons.1 hx with rfl|hx
   ·simp
   ·have:=ih x hx;simp;omega
  ·obtain⟨y,u,h1,h2⟩:=Nm.pG c r hc;rw[h2]at hx;rw[h1]at ih;rcases List.mem_cons.1 hx with rfl|hx
   ·have:=ih y (List.mem_cons_self ..);simp;omega
   ·have:=ih x (List.mem_cons_of_mem _ hx);simp;omega
theorem FQ(t:Text)(ht:t.length<=1000):aq E 136 [.str t] (· = .sl ((Nm.split t).map .str)):=by
 refine aq.run ab (fn:=Tryz.f136) Tryz.func136 (body:=Tryz.f136.body.getD .skip) rfl (by decide) 6 ?_;(conv=>whnf);refine I.qL ab rfl ?_;refine gO F136 ?_;refine I.loop (κ:=Nat) ([3,4]++rg 6 30) (fun k=>[(4,.d (.int .i64 k)),(3,.own 0 1)]) (fun k=>[(0,.arr 1 (9,1) ((Nm.split (t.take k)).map .str))]) (fun k=>k<=t.length) (fun k=>t.length-k) 0 (Nat.zero_le _) ?_ ?_
 ·(conv=>whnf);repeat (first|exact trivial|(refine sI ?_;conv=>whnf))
  refine And.intro (by simp[Nm.split]) ?_;exact sZ
 ·intro k hk IH;have hlen:=FP (t.take k);rw[List.length_take]at hlen;refine I.head ab F136 2000 ?_;(conv=>whnf);refine ai (fun h1=>?_) (fun h1=>?_)
  ·have ah:k<t.length:=by simpa using h1
   obtain⟨c,hc⟩:=aG ah;refine gO F136 ?_;refine kD c (by omega) (by rw[Int.toNat_natCast];exact hc) ?_;refine gO F136 ?_;refine ai (fun h2=>?_) (fun h2=>?_)
   ·have FR:c=46:=by
     have:(c.toNat:Int)=46:=by simpa using h2
     exact UInt8.toNat_inj.1 (by simp;omega)
    refine gO F136 ?_;refine aV ⟨by simp;omega,by simp[DV.cells]⟩ ?_;refine gO F136 ?_;refine I.back (IH (k+1) (by omega) (by omega)) ?_;(conv=>whnf);repeat (first|exact trivial|(refine sI ?_;conv=>whnf))
    refine And.intro (by rw[Sp hc FR];simp) ?_;exact sZ
   ·have FR:c≠46:=by rintro rfl;simp at h2
    obtain⟨i,x,e1⟩:∃ i x,Nm.split (t.take k)=i++[x]:=⟨_,_,(List.dropLast_concat_getLast (Nm.n' _)).symm⟩;have bg:=Sq hc FR e1;rw[e1]at hlen ⊢;have hw:IntKind.i64.wrap ((((i++[x]).map DV.str).length:Int)-1)=(i.length:Int):=by
     rw[wrap64 (by simp) (by simp;simp at hlen;omega)];simp
    refine gO F136 ?_;refine I.bJ ab bG 2000 (by kernel_rfl) ?_;(conv=>whnf);rw[hw];have dY:((i++[x]).map DV.str)[((i.length:Nat):Int).toNat]?=some (.str x):=by simp
    have Sr:(List.drop (Int.toNat (k:Int)) (List.take (IntKind.i64.wrap ((k:Int)+1)).toNat t))=[c]:=by
     rw[wrap64 (by omega) (by omega),show((k:Int)+1).toNat=k+1 by omega,Int.toNat_natCast,cK hc];simp[Nat.min_eq_left (Nat.le_of_lt ah)]
    refine aV ⟨by omega,by simp;omega⟩ ?_;refine gD ?_;refine eM (.str x) (by omega) dY rfl ?_;refine gD ?_;have dz:IntKind.i64.wrap ((k:Int)+1)=(k:Int)+1:=wrap64 (by omega) (by omega);refine aV ⟨by simp,by simp[dz];omega,by simp[dz];omega⟩ ?_;refine gD ?_;have gP:x.length<=1000:=by
     have:=KO (t.take k) x (by rw[e1];simp);simp at this;omega
    simp only[Option.getD_some];rw[Sr];refine aV (by simp;omega) ?_;refine gD ?_;refine aV ⟨by omega,by simp;omega⟩ ?_;refine gD ?_;refine eM (.str x) (by omega) dY rfl ?_;refine gD ?_;refine And.intro (by kernel_rfl) ?_;(conv=>whnf);refine gO F136 ?_;refine I.back (IH (k+1) (by omega) (by omega)) ?_;(conv=>whnf);repeat (first|exact trivial|(refine sI ?_;conv=>whnf))
    refine And.intro (by rw[bg];simp[List.set_append_right]) ?_;exact sZ
  ·have aA:k=t.length:=by simp at h1;omega
   subst aA;refine gO F136 ?_;simp
theorem zH(t:Text)(ht:t.length<=1000):aq E 67 [.str t] (· = .sl ((Nm.labels t).map .str)):=by
 refine aq.norm ?_;refine eP Tryz.func67 ?_;repeat' (first|with_reducible(first|refine ao (FQ _ ht) ?_|refine au (FQ _ ht) ?_|refine cY ?_|refine cN ?_|refine ai (fun _=>?_) (fun _=>?_))|refine gA Tryz.func67 ?_|refine gB ?_|with_reducible rfl)
 all_goals simp_all[Nm.labels,norm]
theorem Cf(t:Text):(Nm.labels t).length<=t.length+1:=by
 unfold Nm.labels;split
 ·simp
 ·exact FP t
def Nm.mn(s z:Text):Bool:=Nm.valid s&&Nm.valid z&&Nm.under s z
theorem zI(s z:Text)(hs:s.length<=1000)(hz:z.length<=1000):aq E 66 [.str s,.str z] (· = .bool (Nm.under s z)):=by
 have rP:=Cf s;have oE:=Cf z;unfold Nm.under;refine eP F66 ?_
 with_reducible refine ao (zH _ hs) ?_
 refine gO F66 ?_
 with_reducible refine ao (zH _ hz) ?_
 refine gO F66 ?_;generalize Nm.labels s=l at *;generalize Nm.labels z=m at *;refine ai (fun h3=>?_) (fun h3=>?_)
 ·refine gO F66 ?_;simp at h3;rw[decide_eq_false];exact fun h=>by have:=h.length_le;omega
 ·have hle:m.length<=l.length:=by simp at h3;omega
  have e:decide (m <:+ l)=decide (m=l.drop (l.length-m.length)):=decide_eq_decide.2 ⟨List.suffix_iff_eq_drop.1,List.suffix_iff_eq_drop.2⟩;rw[e];refine gO F66 ?_;refine I.loop (κ:=Nat) ([4,7]++rg 17 21) (fun k=>[(7,.d (.int .i64 k))]) (fun _=>[]) (fun k=>k<=m.length/\m.take k=(l.drop (l.length-m.length)).take k) (fun k=>m.length-k) 0 ⟨Nat.zero_le _,rfl⟩ ?_ ?_
  ·exact sZ
  rintro k ⟨hk,aJ⟩ IH;refine I.head ab F66 2000 ?_;(conv=>whnf);refine ai (fun h5=>?_) (fun h5=>?_)
  ·have ah:k<m.length:=by simpa using h5
   obtain⟨x,hx⟩:=aG ah;obtain⟨y,hy⟩:=aG (l:=l) (k:=l.length-m.length+k) (by omega);have FT:(l.drop (l.length-m.length))[k]?=some y:=by rw[List.getElem?_drop];exact hy
   have hw:IntKind.i64.wrap (IntKind.i64.wrap ((l.length:Int)-m.length)+k)=((l.length-m.length+k:Nat):Int):=by rw[wrap64 (n:=(l.length:Int)-m.length) (by omega) (by omega),wrap64 (by omega) (by omega)];omega
   refine gO F66 ?_;refine I.bJ ab bG 2000 (by kernel_rfl) ?_;(conv=>whnf);refine aB (e := .str y) (by rw[List.length_map,List.length_map,hw];exact aN hy) rfl ?_;refine gD ?_;refine aB (e := .str x) (aN hx) rfl ?_;refine gD ?_;refine gO F66 ?_;by_cases ni:x=y
   ·refine aW (by simp[ni]) ?_;refine gO F66 ?_;refine I.back (IH (k+1) ⟨ah,by rw[cK hx,cK FT,aJ,ni]⟩ (by omega)) ?_;exact sZ
   ·refine aU (by simpa using fun h=>ni h.symm) ?_;refine gO F66 ?_;rw[decide_eq_false];intro h;rw[<- h,hx]at FT;exact ni (Option.some.inj FT)
  ·have aA:k=m.length:=by simp at h5;omega
   subst aA;refine gO F66 ?_;rw[List.take_length,List.take_of_length_le (by simp;omega)]at aJ;rw[decide_eq_true aJ]
def gF(i:Nat)(x:Text):Bool:=Nm.label x||(decide (i=0)&&decide (x=[42]))
theorem qP{L:List Text}:Nm.parts L=true↔L.length<=8/\∀ i x,L[i]?=some x->gF i x=true:=by
 cases L with
 |nil=>simp[Nm.parts]
 |cons a r =>
  simp only[Nm.parts,Bool.and_eq_true,decide_eq_true_eq,List.all_eq_true];constructor
  ·rintro⟨h1,h2,h3⟩;refine⟨h1,fun i x hx=>?_⟩;cases i with
   |zero=>simp at hx;subst hx;simpa [gF]using h2
   |succ i=>simp at hx;simp[gF,h3 x (List.mem_of_getElem? hx)]
  ·rintro⟨h1,h2⟩;refine⟨h1,by simpa [gF]using h2 0 a rfl,fun x hx=>?_⟩;obtain⟨i,hi⟩:=List.getElem?_of_mem hx
   simpa [gF]using h2 (i+1) x (by simpa using hi)
theorem eG(t:Text)(ht:t.length<=maxLen):aq E 77 [.str t] (· = .bool (Nm.valid t)):=by
 unfold maxLen at ht;refine eP F77 ?_;refine ai (fun h1=>?_) (fun h1=>?_)
 ·refine gO F77 ?_;have e:t=[46]:=by simpa using h1
  subst e;rfl
 have h1:t≠[46]:=by simpa using h1
 refine gO F77 ?_;refine ai (fun h2=>?_) (fun h2=>?_)
 ·refine gO F77 ?_;simp at h2;simp[Nm.valid,h1];omega
 have h2:t.length<=60:=by simp at h2;omega
 have hv:Nm.valid t=Nm.parts (Nm.split t):=by simp[Nm.valid,h1,h2]
 have c1:=FQ t (by omega);have hm:=KO t;have hl:=FP t;rw[hv];generalize Nm.split t=l at *;refine gO F77 ?_;refine ao (c1) ?_;refine gO F77 ?_;refine I.loop (κ:=Nat) ([2,4,5]++rg 13 24) (fun k=>[(4,.d (.int .i64 k))]) (fun _=>[]) (fun k=>k<=l.length/\∀ i x,i<k->l[i]?=some x->gF i x=true) (fun k=>l.length-k) 0 ⟨Nat.zero_le _,by omega⟩ ?_ ?_
 ·exact sZ
 rintro k ⟨hk,aJ⟩ IH;refine I.head ab F77 2000 ?_;(conv=>whnf);refine ai (fun h5=>?_) (fun h5=>?_)
 ·have ah:k<l.length:=by simpa using h5
  obtain⟨x,hx⟩:=aG ah;have no:¬ gF k x=true->Nm.parts l=false:=fun h=>by
   rw[<- Bool.not_eq_true,qP];exact fun e=>h (e.2 k x hx)
  have back:gF k x=true->_:=fun e=>IH (k+1) ⟨ah,fun i y hi hy=>(Nat.lt_succ_iff_lt_or_eq.1 hi).elim (fun h=>aJ i y h hy) (fun h=>by subst h;rw[hx]at hy;cases hy;exact e)⟩ (by omega);have c2:=Sn x (by have:=hm x (List.mem_of_getElem? hx);unfold maxLen;omega);unfold gF at no back;refine gO F77 ?_;repeat' (first|with_reducible(first|refine aB ((aN hx)) rfl ?_|refine ao (c2) ?_|refine au (c2) ?_|refine cY ?_|refine cN ?_|refine ai (fun _=>?_) (fun _=>?_))|refine gA F77 ?_|refine gB ?_|with_reducible rfl)
  all_goals try (refine I.run ab F77 2000 ?_;conv=>whnf)
  all_goals first
   |(rw[no (by simp_all;try omega)];done)
   |(refine I.back (back (by simp_all;try omega)) ?_;exact FO)
 ·have aA:k=l.length:=by simp at h5;omega
  subst aA;have e:Nm.parts l=decide (l.length<=8):=by
   rw[Bool.eq_iff_iff,qP,decide_eq_true_eq];exact⟨And.left,fun h=>⟨h,fun i x hx=>aJ i x (aQ hx) hx⟩⟩
  rw[e];refine gO F77 ?_;simp;omega
theorem iW(t:Text)(ht:t.length<=maxLen):aq E 206 [.str t] (· = .bool (Nm.ia t)):=by
 cases t with
 |nil =>
  refine eP Tryz.func206 ?_;refine aW (by decide) ?_;refine gO Tryz.func206 ?_;rfl
 |cons c r =>
  have e:((c.toNat:Int)==42)=(c==42):=by
   rw[Bool.eq_iff_iff,beq_iff_eq,beq_iff_eq];exact⟨fun h=>UInt8.toNat_inj.1 (Int.ofNat.inj h),fun h=>h ▸ rfl⟩
  refine eP Tryz.func206 ?_;refine aU (by simp) ?_;refine gO Tryz.func206 ?_;refine kD c (by omega) rfl ?_;refine gO Tryz.func206 ?_;rw[e];rfl
end Go.Proofs.YtfmdaiojokniiaaGreatDoor.P
end
section
namespace Go.ay
open Go Go.RowKit
set_option maxHeartbeats 1000000
theorem SR{bad:Nat->Prop}{w:World}{z:List DV}{v:Value}(hv:VD bad w (.sl z) v):∃ a cap,v=.slice a z.length cap/\z.length<=cap/\VD bad w (.sl z) (.slice a z.length z.length):=by
 cases hv with
 |slnil=>exact⟨none,0,rfl,Nat.le_refl _,.slnil⟩
 |ku a=>exact⟨some a,0,rfl,Nat.le_refl _,.ku a⟩
 |sl _ blk off cap sz f h1 h2 h3 h4 h5 h6 h7=>exact⟨_,cap,rfl,h3,.sl _ blk off z.length sz f h1 h2 (Nat.le_refl _) h4 h5 h6 h7⟩
theorem I.slice3{E:Env}{s:List AV}{h:List af}(hE:E.OK){ag:FuncId}{R:cF}{lits:List Nat}{ops:Array Oper}{o:Oper}{l:List Oper}{r:List aP}{t e:Nat}{ti ei:br}{x y u m:Operand}{z:List DV}{j j1 j2:IntKind}{n:Nat}(hg:o.guard=none)
  (cm:o.op=.slice t x (some y) (some u) (some m)) (hi:E.T[t]?=some ti) (hk:ti.k=.slice e) (bT:E.T[e]?=some ei) (hv:aZ E.G s x (.d (.sl z))) (hy:aZ E.G s y (.d (.int j n))) (hu:aZ E.G s u (.d (.int j1 z.length))) (hm:aZ E.G s m (.d (.int j2 z.length))) (hn:n<=z.length) (bP:∀ e∈z,e.cells.length=ei.size)
  (H:cd s o.dst (.d (.sl (z.drop n))) fun s'=>I E ag R lits (.bu ops l::r) s' h):I E ag R lits (.bu ops (o::l)::r) s h:=by
 have ho:bw E o.op s h (.d (.sl (z.drop n))) h:=by
  rw[cm];refine .quiet fun o c ac e1 h2 h3 h4=>?_;subst h2;obtain⟨me,d,g1,g2,g3,-⟩:=cD (hE.types t ti hi);obtain rfl:=lj (hk.symm.trans g3);have hv:=hv c ac h3 h4;generalize En:ac.eval x=v at hv;cases hv with
  |d _ _ hv =>
   obtain⟨a,cap,rfl,jm,hd⟩:=SR hv;obtain⟨a',gV,e2,-,hd⟩:=I5 hd (lo:=n) (hi:=z.length) hn (Nat.le_refl _) bP;cases e2;rw[List.take_length]at hd;refine⟨_,?_,.d _ _ hd⟩;have e3:=dW (hy c ac h3 h4);have e4:=dW (hu c ac h3 h4);have e5:=dW (hm c ac h3 h4);have b1:=run_sliceBound (P:=E.P) c.w j2 z.length cap .slice3Acap (by omega) (by omega);have b2:=run_sliceBound (P:=E.P) c.w j1 z.length z.length .slice3B (by omega) (by omega);have b3:=run_sliceBound (P:=E.P) c.w j n z.length .slice3C (by omega) (by omega);simp only[Int.toNat_natCast]at b1 b2 b3;simp only[execOp,e1,En,e3,e4,e5,Instr.sliceAt,Instr.slice,Instr.sliceBounds,Sem.run_bind,Sem.run_pure,Result.andThen_ok,run_underlying g2,Option.map_some,Option.isSome_some,if_true,b1,b2,b3,run_sizeOf (hE.types e ei bT)]
 rw[dP]at H;exact .of (.op (fS hg) ho H.to)
end Go.ay
end
section
namespace Go.Proofs.YtfmdaiojokniiaaGreatDoor.P
open Go Go.ay Go.Sort Go.RowKit
def mD(x:Int × Int):List Value:=[.int .i64 x.1,.int .i64 x.2]
def ki(x:Int × Int):DV := .agg [.int .i64 x.1,.int .i64 x.2]
def M7(P:Program)(f g:Nat)(key:Int × Int->Int):Prop:=∀ (blk cap:Nat) (d:Array (Int × Int)) (w:World),HoldsK mD 2 w blk 0 d->blk<w.heap.size->d.size<4611686018427387904 ->
 Calls P f #[.slice (some ⟨blk,0,none⟩) d.size cap,.func (.func g) #[] #[]] w fun e w'=>e=.returned (.tuple #[])/\∃ d' n os,PermIn 0 d.size d d'/\SortedIn (ltOf fun x y:Int × Int=>Lib.compareInt (key x) (key y)) 0 d.size d'/\w'=sortWorldK mD 2 w blk 0 n d' os
theorem C5(key:Int × Int->Int)(x y:Int × Int):ltOf (fun x y:Int × Int=>Lib.compareInt (key x) (key y)) x y=decide (key x<key y):=by
 unfold ltOf Lib.compareInt;by_cases h1:key x<key y
 ·simp[h1]
 ·by_cases h2:key y<key x<;>simp[h1,h2]
theorem V0(key:Int × Int->Int):SWO (ltOf fun x y:Int × Int=>Lib.compareInt (key x) (key y)) where
 irrefl x:=by rw[C5];simp
 trans x y z h1 h2:=by rw[C5]at *;simp at *;omega
 ntrans x y z h1 h2:=by rw[C5]at *;simp at *;omega
theorem M8(d:Array (Int × Int))(i:Nat)(x:Int × Int)(h:d[i]?=some x):(flatK mD 2 d)[i*2]! = .int .i64 x.1/\(flatK mD 2 d)[i*2+1]! = .int .i64 x.2:=by
 have hi:i<d.size:=by
  rcases Nat.lt_or_ge i d.size with h'|h'
  ·exact h'
  ·rw[Array.getElem?_eq_none h']at h;cases h
 have hx:d[i]! = x:=by simp[getElem!_pos d i hi];rw[Array.getElem?_eq_getElem hi]at h;exact Option.some.inj h
 constructor
 ·rw[get_flatK _ _ _ _ (by omega),show i*2 / 2=i by omega,show i*2 % 2=0 by omega,hx];rfl
 ·rw[get_flatK _ _ _ _ (by omega),show(i*2+1) / 2=i by omega,show(i*2+1) % 2=1 by omega,hx];rfl
theorem V1{w:World}{blk n:Nat}{d:Array (Int × Int)}{os:Array Obj}{vs:Array Value}{ty:TypeId}(hb:w.heap[blk]?=some (.cells vs ty (0,0))) :
  let w':=sortWorldK mD 2 w blk 0 n d os
  w'.os=w.os/\w'.tape=w.tape/\w'.output=w.output/\w.heap.size<=w'.heap.size/\(∀ b,b<w.heap.size->b≠blk->w'.heap[b]?=w.heap[b]?)/\w'.heap[blk]?=some (.cells (putCells id 0 (flatK mD 2 d) vs) ty (0,0)):=by
 intro w';have ah:blk<w.heap.size:=by
  rcases Nat.lt_or_ge blk w.heap.size with h|h
  ·exact h
  ·rw[Array.getElem?_eq_none h]at hb;cases hb
 have bP:(putRowK mD 2 (Sort.ahead w n) blk 0 d).heap.size=w.heap.size:=by simp[putRowK,putRow,mapBlock]
 refine⟨rfl,rfl,rfl,?_,fun b cw aI=>?_,?_⟩
 ·show w.heap.size<=(grow _ os).heap.size;rw[size_grow,bP];omega
 ·show(grow _ os).heap[b]?=_;rw[heap_grow_old _ _ (by rw[bP];exact cw)];simp[putRowK,putRow,mapBlock,Array.getElem?_modify,Ne.symm aI]
 ·show(grow _ os).heap[blk]?=_;rw[heap_grow_old _ _ (by rw[bP];exact ah)];simp[putRowK,putRow,mapBlock,Array.getElem?_modify,hb,onCells]
theorem G9{bad:Nat->Prop}{w:World}{k:IntKind}{n:Int}{v:Value}(h:VD bad w (.int k n) v):v=.int k n:=by cases h;rfl
theorem V2{E:Env}{f g:FuncId}{key:Int × Int->Int}{t:Nat}(hS:M7 E.P f g key)(fb:lq E.P f)(l:List (Int × Int))(hl:l≠[])(hlen:l.length<4611686018427387904) :
  ar E f [.arr 0 (t,2) (l.map ki)] [.own 0 0,.fn (.func g) [] []] (fun a b=>a=.aD []/\∃ l':List (Int × Int),l'.Perm l/\l'.Pairwise (fun x y=>key x<=key y)/\b=[.arr 0 (t,2) (l'.map ki)]):=by
 unfold ar;refine⟨fb,jR rfl,fun c vs h1 h2 h3=>?_⟩;obtain⟨v1,v2,rfl⟩:∃ v1 v2,vs=[v1,v2]:=by
  have:=h3.1
  match vs,this with
  |[a,b],_=>exact⟨a,b,rfl⟩
 have kI:=h3.2 0 _ v1 rfl rfl;have mh:=h3.2 1 _ v2 rfl rfl;have dq:c.heap[0]?=some (.arr 0 (t,2) (l.map ki)):=by rw[h1];rfl
 obtain⟨u1,u2,rfl,e2,e3⟩:=ma mh;obtain rfl:u1=[]:=List.eq_nil_of_length_eq_zero (by have:=e2.1;simpa using this.symm);obtain rfl:u2=[]:=List.eq_nil_of_length_eq_zero (by have:=e3.1;simpa using this.symm);rcases kC dq kI with⟨blk,cap,r1,rfl⟩|⟨nj,-,-⟩
 case inr=>exact absurd (List.map_eq_nil_iff.1 nj) hl
 obtain⟨q0,q1,q2⟩:=h2.box 0 _ dq;rcases q2 with⟨q2,-⟩|⟨iM,gV,vs',q2,q3,q4,q5,q6,q7⟩
 ·rw[r1]at q2;cases q2
 rw[r1]at q2;cases q2;simp only at q3 q4 q7;have dK:∀ (i:Nat) (x:Int × Int),l[i]?=some x->vs'[i*2]?=some (.int .i64 x.1)/\vs'[i*2+1]?=some (.int .i64 x.2):=fun i x hx=>by
  have he:(l.map ki)[i]?=some (ki x):=by simp[hx]
  obtain⟨v,a1,a2,a3⟩:=q7 i 0 (ki x) (.int .i64 x.1) he rfl;obtain⟨v',b1,b2,b3⟩:=q7 i 1 (ki x) (.int .i64 x.2) he rfl;rw[G9 a3]at a1;rw[G9 b3]at b1;exact⟨a1,b1⟩
 have jr:l.toArray.size=l.length:=by simp
 have hH:HoldsK mD 2 c.w blk 0 l.toArray:=by
  intro j hj;simp only[size_flatK,jr]at hj;obtain⟨x,hx⟩:∃ x,l[j / 2]?=some x:=⟨l[j / 2]'(by omega),by rw[List.getElem?_eq_getElem]⟩;have dX:l.toArray[j / 2]?=some x:=by simpa using hx
  obtain⟨f1,f2⟩:=M8 l.toArray (j / 2) x dX;obtain⟨c1,c2⟩:=dK (j / 2) x hx;refine⟨?_,by simp[World.frozen?,q3]⟩;rcases Nat.mod_two_eq_zero_or_one j with hm|hm
  ·have ej:j / 2*2=j:=by omega
   rw[ej]at f1 c1;show _=some ((flatK mD 2 l.toArray)[j]!);rw[f1];exact lY q3 _ _ (by simpa using c1)
  ·have ej:j / 2*2+1=j:=by omega
   rw[ej]at f2 c2;show _=some ((flatK mD 2 l.toArray)[j]!);rw[f2];exact lY q3 _ _ (by simpa using c2)
 have hblk:=(h2.bA 0 blk cap r1).1;have iU:=hS blk cap l.toArray c.w hH hblk (by rw[jr];exact hlen);rw[jr]at iU;have jK:([Value.slice (some ⟨blk,0,none⟩) (l.map ki).length cap,.func (.func g) ([]:List Value).toArray ([]:List Value).toArray]:List Value).toArray = #[.slice (some ⟨blk,0,none⟩) l.length cap,.func (.func g) #[] #[]]:=by simp
 rw[jK];refine iU.mono fun e w' ⟨he,d',n,os,hp,hs,hw⟩=>?_;subst he;obtain⟨p1,-,p3⟩:=hp;have fj:d'.size=l.length:=by rw[p1,jr]
 have rB:d'.toList.Perm l:=by
  have ex:∀ (a:Array (Int × Int)),a.size=l.length->(a.extract 0 l.length).toList=a.toList:=fun a ha=>by rw[<- ha,Array.extract_size]
  rw[ex d' fj,ex l.toArray jr]at p3
  simpa using p3
 have V3:d'.toList.Pairwise (fun x y=>key x<=key y):=by
  refine List.pairwise_iff_getElem.2 fun i j hi hj dQ=>?_;have cg:i<d'.size:=by simpa using hi
  have eK:j<d'.size:=by simpa using hj
  have:=hs i j (Nat.zero_le _) dQ (by omega);rw[C5,decide_eq_false_iff_not,getElem!_pos d' j eK,getElem!_pos d' i cg]at this;simp only[Array.getElem_toList];omega
 obtain⟨a1,a2,a3,a4,a5,a6⟩:=V1 (n:=n) (d:=d') (os:=os) q3;rw[<- hw]at a1 a2 a3 a4 a5 a6
 let c':Cx:={ c with heap:=[.arr 0 (t,2) (d'.toList.map ki)],w:=w' }
 have bW:∀ i bx,c.heap[i]?=some bx->i=0/\bx=.arr 0 (t,2) (l.map ki):=fun i bx hi=>by
  rw[h1]at hi;cases i with
  |zero=>simp at hi;exact⟨rfl,hi.symm⟩
  |succ i=>simp at hi
 have oI:(d'.toList.map ki).length=(l.map ki).length:=by simp[fj]
 have bg:ay.Step c c':=⟨rfl,h2.bQ,a1,a2,a3,a4,fun b hb hn=>a5 b hb (fun e=>by subst e;exact hn 0 cap r1),fun i b n hi _=>⟨n,hi⟩,fun i bx hi=>by
  obtain⟨rfl,rfl⟩:=bW i bx hi
  exact .inl ⟨0,_,rfl,.inr ⟨rfl,oI,rfl⟩⟩⟩
 have aM:aK E.G c':=h2.next bg (fun i b n hi=>by
   have:=h2.bA i b n hi;refine⟨Nat.lt_of_lt_of_le this.1 a4,?_⟩;have h0:c.heap.length=1:=by rw[h1];rfl
   show i<1;omega) h2.inj (fun i bx hi=>by
  right;cases i with
  |succ i=>simp[c']at hi
  |zero =>
   simp[c']at hi;subst hi;refine⟨q0,fun i e he=>?_,.inr ⟨blk,cap,_,r1,a6,?_,?_,q6,fun i j e x he hx=>?_⟩⟩
   ·simp only[List.getElem?_map]at he;cases hq:d'.toList[i]? with
    |none=>rw[hq]at he;cases he
    |some y=>rw[hq]at he;cases he;rfl
   ·simp[putCells,q4]
   ·rw[oI];exact q5
   ·simp only[List.getElem?_map]at he;cases hq:d'.toList[i]? with
    |none=>rw[hq]at he;cases he
    |some y =>
     rw[hq]at he;cases he;have hi:i<l.length:=by have:=aQ hq;simpa [fj]using this
     have Bs:d'[i]?=some y:=by simpa using hq
     obtain⟨f1,f2⟩:=M8 d' i y Bs;have dm:vs'.size=cap*2:=q4;have dA:(l.map ki).length=l.length:=by simp
     have kg:l.length<=cap:=by rw[<- dA];exact q5
     have at_:∀ k,k<2->(putCells id 0 (flatK mD 2 d') vs')[i*2+k]?=some ((flatK mD 2 d')[i*2+k]!):=fun k hk=>by
      have h5:i*2+k<vs'.size:=by omega
      simp only[putCells,Array.getElem?_mapIdx,Array.getElem?_eq_getElem h5,Option.map_some];rw[if_pos ⟨Nat.zero_le _,by rw[size_flatK,fj];omega⟩];rfl
     match j with
     |0 =>
      simp[ki,DV.cells]at hx;subst hx;exact⟨_,(at_ 0 (by omega)).trans (congrArg some f1),rfl,.int _ _⟩
     |1 =>
      simp[ki,DV.cells]at hx;subst hx;exact⟨_,(at_ 1 (by omega)).trans (congrArg some f2),rfl,.int _ _⟩
     |j+2=>simp[ki,DV.cells]at hx)
 refine⟨c',.aD [],.tuple #[],rfl,rfl,⟨rfl,d'.toList,rB,V3,rfl⟩,.aD [] #[] rfl (fun j x v hx=>by simp at hx),aM,?_⟩
 exact⟨rfl,a1,a2,a3,a4,fun b hb hn=>a5 b hb (fun e=>by subst e;exact hn 0 cap r1),fun i b n hi _=>⟨n,hi⟩,fun i bx hi=>by
  obtain⟨rfl,rfl⟩:=bW i bx hi
  exact .inl ⟨0,_,rfl,.inr ⟨rfl,oI,rfl⟩⟩⟩
end Go.Proofs.YtfmdaiojokniiaaGreatDoor.P
end
section
namespace Go.Proofs
open Go.Shelf
def Tryz.V4:Go.Shelf.Ren:=⟨fun|5=>101|7=>176|n=>n,fun|22=>3|3=>3|4=>4|n=>n,fun|n=>n⟩
theorem Tryz.V5:Go.Proofs.SlLaysC2.n5 Tryz.prog Tryz.V4:={
 mixed:=by kernel_rfl
 f5:=⟨Tryz.f101.name,by decide,Tryz.func101.trans (congrArg some (by kernel_rfl))⟩
 f7:=⟨Tryz.f176.name,by decide,Tryz.func176.trans (congrArg some (by kernel_rfl))⟩
 t3:=Tryz.underlying3
 a3:=Tryz.isAgg3
 z3:=Tryz.sizeOf3
 v3:=Tryz.zeroValue3
 t4:=Tryz.underlying4
 a4:=Tryz.isAgg4
 z4:=Tryz.sizeOf4
 v4:=Tryz.zeroValue4
 t22:=Tryz.underlying3
 a22:=Tryz.isAgg3
 z22:=Tryz.sizeOf3
 v22:=Tryz.zeroValue3 }
def Tryz.V6:Go.Shelf.Ren:=⟨fun|6=>99|15=>153|14=>175|28=>231|29=>232|20=>247|21=>248|22=>249|23=>250|24=>251|25=>252|26=>253|27=>254|46=>299|47=>283|48=>284|49=>300|50=>301|57=>342|n=>n,fun|22=>167|24=>169|25=>172|3=>3|39=>224|0=>0|53=>290|55=>188|4=>4|46=>283|45=>282|50=>287|5=>5|9=>9|66=>330|70=>334|76=>362|77=>363|n=>n,fun|n=>n⟩
theorem Tryz.V7:Go.Proofs.SlLaysF0.n6 Tryz.prog Tryz.V6:={
 mixed:=by kernel_rfl
 f6:=⟨Tryz.f99.name,by decide,Tryz.func99.trans (congrArg some (by kernel_rfl))⟩
 f14:=⟨Tryz.f175.name,by decide,Tryz.func175.trans (congrArg some (by kernel_rfl))⟩
 f15:=Tryz.func153.trans (congrArg some (by kernel_rfl))
 f20:=⟨Tryz.f247.name,by decide,Tryz.func247.trans (congrArg some (by kernel_rfl))⟩
 f21:=⟨Tryz.f248.name,by decide,Tryz.func248.trans (congrArg some (by kernel_rfl))⟩
 f22:=⟨Tryz.f249.name,by decide,Tryz.func249.trans (congrArg some (by kernel_rfl))⟩
 f23:=⟨Tryz.f250.name,by decide,Tryz.func250.trans (congrArg some (by kernel_rfl))⟩
 f24:=⟨Tryz.f251.name,by decide,Tryz.func251.trans (congrArg some (by kernel_rfl))⟩
 f25:=⟨Tryz.f252.name,by decide,Tryz.func252.trans (congrArg some (by kernel_rfl))⟩
 f26:=⟨Tryz.f253.name,by decide,Tryz.func253.trans (congrArg some (by kernel_rfl))⟩
 f27:=⟨Tryz.f254.name,by decide,Tryz.func254.trans (congrArg some (by kernel_rfl))⟩
 f28:=Tryz.func231.trans (congrArg some (by kernel_rfl))
 f29:=Tryz.func232.trans (congrArg some (by kernel_rfl))
 f46:=⟨Tryz.f299.name,by decide,Tryz.func299.trans (congrArg some (by kernel_rfl))⟩
 f47:=Tryz.func283.trans (congrArg some (by kernel_rfl))
 f48:=Tryz.func284.trans (congrArg some (by kernel_rfl))
 f49:=⟨Tryz.f300.name,by decide,Tryz.func300.trans (congrArg some (by kernel_rfl))⟩
 f50:=⟨Tryz.f301.name,by decide,Tryz.func301.trans (congrArg some (by kernel_rfl))⟩
 f57:=⟨Tryz.f342.name,by decide,Tryz.func342.trans (congrArg some (by kernel_rfl))⟩
 t0:=Tryz.underlying0
 a0:=Tryz.isAgg0
 z0:=Tryz.sizeOf0
 v0:=Tryz.zeroValue0
 t3:=Tryz.underlying3
 a3:=Tryz.isAgg3
 z3:=Tryz.sizeOf3
 v3:=Tryz.zeroValue3
 t4:=Tryz.underlying4
 a4:=Tryz.isAgg4
 z4:=Tryz.sizeOf4
 v4:=Tryz.zeroValue4
 t5:=Tryz.underlying5
 a5:=Tryz.isAgg5
 z5:=Tryz.sizeOf5
 v5:=Tryz.zeroValue5
 t9:=Tryz.underlying9
 a9:=Tryz.isAgg9
 z9:=Tryz.sizeOf9
 v9:=Tryz.zeroValue9
 t22:=Tryz.underlying167
 a22:=Tryz.isAgg167
 z22:=Tryz.sizeOf167
 v22:=Tryz.zeroValue167
 t25:=Tryz.underlying172
 a25:=Tryz.isAgg172
 z25:=Tryz.sizeOf172
 v25:=Tryz.zeroValue172
 t39:=Tryz.underlying224
 a39:=Tryz.isAgg224
 z39:=Tryz.sizeOf224
 v39:=Tryz.zeroValue224
 t45:=Tryz.underlying282
 a45:=Tryz.isAgg282
 z45:=Tryz.sizeOf282
 v45:=Tryz.zeroValue282
 t46:=Tryz.underlying283
 a46:=Tryz.isAgg283
 z46:=Tryz.sizeOf283
 v46:=Tryz.zeroValue283
 t50:=Tryz.underlying287
 a50:=Tryz.isAgg287
 z50:=Tryz.sizeOf287
 v50:=Tryz.zeroValue287
 t53:=Tryz.underlying290
 a53:=Tryz.isAgg290
 z53:=Tryz.sizeOf290
 v53:=Tryz.zeroValue290
 t55:=Tryz.underlying188
 a55:=Tryz.isAgg188
 z55:=Tryz.sizeOf188
 v55:=Tryz.zeroValue188
 t66:=Tryz.underlying330
 a66:=Tryz.isAgg330
 z66:=Tryz.sizeOf330
 v66:=Tryz.zeroValue330
 t70:=Tryz.underlying334
 a70:=Tryz.isAgg334
 z70:=Tryz.sizeOf334
 v70:=Tryz.zeroValue334
 t76:=Tryz.underlying362
 a76:=Tryz.isAgg362
 z76:=Tryz.sizeOf362
 v76:=Tryz.zeroValue362
 t77:=Tryz.underlying363
 a77:=Tryz.isAgg363
 z77:=Tryz.sizeOf363
 v77:=Tryz.zeroValue363 }
def Tryz.V8:Go.Shelf.Ren:=⟨fun|5=>182|8=>153|7=>261|19=>231|20=>232|10=>306|11=>307|12=>308|13=>309|14=>310|15=>311|16=>312|17=>313|18=>314|30=>344|31=>283|32=>284|33=>345|34=>346|35=>176|40=>358|n=>n,fun|23=>27|25=>3|3=>3|32=>224|22=>27|0=>0|44=>290|46=>188|4=>4|36=>283|35=>282|41=>287|5=>5|9=>9|53=>330|57=>334|63=>362|64=>363|n=>n,fun|n=>n⟩
theorem Tryz.sortInt:Go.Proofs.SlLaysM.n5 Tryz.prog Tryz.V8:={
 mixed:=by kernel_rfl
 f5:=⟨Tryz.f182.name,by decide,Tryz.func182.trans (congrArg some (by kernel_rfl))⟩
 f7:=⟨Tryz.f261.name,by decide,Tryz.func261.trans (congrArg some (by kernel_rfl))⟩
 f8:=Tryz.func153.trans (congrArg some (by kernel_rfl))
 f10:=⟨Tryz.f306.name,by decide,Tryz.func306.trans (congrArg some (by kernel_rfl))⟩
 f11:=⟨Tryz.f307.name,by decide,Tryz.func307.trans (congrArg some (by kernel_rfl))⟩
 f12:=⟨Tryz.f308.name,by decide,Tryz.func308.trans (congrArg some (by kernel_rfl))⟩
 f13:=⟨Tryz.f309.name,by decide,Tryz.func309.trans (congrArg some (by kernel_rfl))⟩
 f14:=⟨Tryz.f310.name,by decide,Tryz.func310.trans (congrArg some (by kernel_rfl))⟩
 f15:=⟨Tryz.f311.name,by decide,Tryz.func311.trans (congrArg some (by kernel_rfl))⟩
 f16:=⟨Tryz.f312.name,by decide,Tryz.func312.trans (congrArg some (by kernel_rfl))⟩
 f17:=⟨Tryz.f313.name,by decide,Tryz.func313.trans (congrArg some (by kernel_rfl))⟩
 f18:=⟨Tryz.f314.name,by decide,Tryz.func314.trans (congrArg some (by kernel_rfl))⟩
 f19:=Tryz.func231.trans (congrArg some (by kernel_rfl))
 f20:=Tryz.func232.trans (congrArg some (by kernel_rfl))
 f30:=⟨Tryz.f344.name,by decide,Tryz.func344.trans (congrArg some (by kernel_rfl))⟩
 f31:=Tryz.func283.trans (congrArg some (by kernel_rfl))
 f32:=Tryz.func284.trans (congrArg some (by kernel_rfl))
 f33:=⟨Tryz.f345.name,by decide,Tryz.func345.trans (congrArg some (by kernel_rfl))⟩
 f34:=⟨Tryz.f346.name,by decide,Tryz.func346.trans (congrArg some (by kernel_rfl))⟩
 f35:=⟨Tryz.f176.name,by decide,Tryz.func176.trans (congrArg some (by kernel_rfl))⟩
 f40:=⟨Tryz.f358.name,by decide,Tryz.func358.trans (congrArg some (by kernel_rfl))⟩
 t0:=Tryz.underlying0
 a0:=Tryz.isAgg0
 z0:=Tryz.sizeOf0
 v0:=Tryz.zeroValue0
 t3:=Tryz.underlying3
 a3:=Tryz.isAgg3
 z3:=Tryz.sizeOf3
 v3:=Tryz.zeroValue3
 t4:=Tryz.underlying4
 a4:=Tryz.isAgg4
 z4:=Tryz.sizeOf4
 v4:=Tryz.zeroValue4
 t5:=Tryz.underlying5
 a5:=Tryz.isAgg5
 z5:=Tryz.sizeOf5
 v5:=Tryz.zeroValue5
 t9:=Tryz.underlying9
 a9:=Tryz.isAgg9
 z9:=Tryz.sizeOf9
 v9:=Tryz.zeroValue9
 t22:=Tryz.underlying27
 a22:=Tryz.isAgg27
 z22:=Tryz.sizeOf27
 v22:=Tryz.zeroValue27
 t23:=Tryz.underlying27
 a23:=Tryz.isAgg27
 z23:=Tryz.sizeOf27
 v23:=Tryz.zeroValue27
 t25:=Tryz.underlying3
 a25:=Tryz.isAgg3
 z25:=Tryz.sizeOf3
 v25:=Tryz.zeroValue3
 t32:=Tryz.underlying224
 a32:=Tryz.isAgg224
 z32:=Tryz.sizeOf224
 v32:=Tryz.zeroValue224
 t35:=Tryz.underlying282
 a35:=Tryz.isAgg282
 z35:=Tryz.sizeOf282
 v35:=Tryz.zeroValue282
 t36:=Tryz.underlying283
 a36:=Tryz.isAgg283
 z36:=Tryz.sizeOf283
 v36:=Tryz.zeroValue283
 t41:=Tryz.underlying287
 a41:=Tryz.isAgg287
 z41:=Tryz.sizeOf287
 v41:=Tryz.zeroValue287
 t44:=Tryz.underlying290
 a44:=Tryz.isAgg290
 z44:=Tryz.sizeOf290
 v44:=Tryz.zeroValue290
 t46:=Tryz.underlying188
 a46:=Tryz.isAgg188
 z46:=Tryz.sizeOf188
 v46:=Tryz.zeroValue188
 t53:=Tryz.underlying330
 a53:=Tryz.isAgg330
 z53:=Tryz.sizeOf330
 v53:=Tryz.zeroValue330
 t57:=Tryz.underlying334
 a57:=Tryz.isAgg334
 z57:=Tryz.sizeOf334
 v57:=Tryz.zeroValue334
 t63:=Tryz.underlying362
 a63:=Tryz.isAgg362
 z63:=Tryz.sizeOf362
 v63:=Tryz.zeroValue362
 t64:=Tryz.underlying363
 a64:=Tryz.isAgg363
 z64:=Tryz.sizeOf363
 v64:=Tryz.zeroValue363 }
end Go.Proofs
end
section
namespace Go.Proofs.YtfmdaiojokniiaaGreatDoor.P
open Go Go.ay Go.Sort Go.RowKit
structure Span where
 cu:Int
 upto:Int
 deriving DecidableEq
@[reducible] def Span.enc (x : Span) : DV := .agg [.int .i64 x.cu, .int .i64 x.upto]
set_option maxHeartbeats 1000000 in
theorem V9(x y:Int × Int)(W:World):Calls Tryz.prog 100 #[.agg #[.int .i64 x.1,.int .i64 x.2],.agg #[.int .i64 y.1,.int .i64 y.2]] W fun e w'=>e=.returned (.int .i64 (Lib.compareInt x.1 y.1))/\∃ q V',w'=grow (W.drewN q) V':=by
 have Aj:=fun W'=>AnyG.cmp_Compare_int Tryz.V5 x.1 y.1 W';change ∀ W',Calls Tryz.prog 101 _ _ _ at Aj;generalize Lib.compareInt x.1 y.1=r at Aj ⊢
 go_enter Tryz.func100,Tryz.ntmps100
 go_wp2_with (go_at_call 101;refine(Aj _).mono ?_;rintro e w' ⟨rfl,rfl⟩)
 go_ret
 exact⟨rfl,0,_,by rw[alloc_eq_grow,alloc_eq_grow,grow_grow];rfl⟩
theorem Wa:M7 Tryz.prog 99 100 (·.1):=fun blk cap d w hH hblk bP=>by
 have eg:∀ args w,(callFunc 100 args).run Tryz.prog w=.ok (.enter 100 args) w:=enters_of Tryz.func100 (by kernel_rfl) rfl;have Aj:=AnyQ.slices_SortFunc Tryz.V7 2 Tryz.isAgg169 Tryz.sizeOf169 mD (fun _=>rfl) (fun x v hv=>by simp[mD]at hv;rcases hv with rfl|rfl<;>rfl) (fun x y=>Lib.compareInt x.1 y.1) (V0 (·.1)) 100 #[] blk 0 cap d w eg (fun _ _ _ _ x y=>V9 x y _) hH hblk bP;exact Aj
theorem Wb(l:List Span)(hl:l≠[])(hlen:l.length<4611686018427387904) :
  ar E 99 [.arr 0 (169,2) (l.map Span.enc)] [.own 0 0,.fn (.func 100) [] []] (fun a b=>a=.aD []/\∃ l':List Span,l'.Perm l/\l'.Pairwise (fun x y=>x.cu<=y.cu)/\b=[.arr 0 (169,2) (l'.map Span.enc)]):=by
 have h:=V2 (E:=E) (t:=169) Wa ⟨_,Tryz.func99,rfl,by decide⟩ (l.map fun k=>(k.cu,k.upto)) (by simpa using hl) (by simpa using hlen);have e1:∀ m:List Span,(m.map fun k=>(k.cu,k.upto)).map ki=m.map Span.enc:=fun m=>by rw[List.map_map];rfl
 rw[e1]at h;refine h.mono fun a b ⟨ha,l',hp,hs,hb⟩=>⟨ha,l'.map fun p=>⟨p.1,p.2⟩,?_,?_,?_⟩
 ·have:=hp.map fun p:Int × Int=>(⟨p.1,p.2⟩:Span);rw[List.map_map]at this;have e2:((fun p:Int × Int=>(⟨p.1,p.2⟩:Span)) ∘ fun k:Span=>(k.cu,k.upto))=id:=rfl;rw[e2,List.map_id]at this;exact this
 ·exact List.pairwise_map.2 hs
 ·rw[hb,List.map_map];rfl
end Go.Proofs.YtfmdaiojokniiaaGreatDoor.P
end
section
namespace Go.Proofs
open Go.Shelf
def Tryz.XT:Go.Shelf.Ren:=⟨fun|178=>269|251=>270|252=>271|181=>125|184=>327|290=>328|324=>349|n=>n,fun|130=>265|9=>9|3=>3|75=>261|0=>0|93=>202|91=>200|131=>287|4=>4|37=>115|20=>20|80=>298|5=>5|n=>n,fun|14=>1|n=>n⟩
theorem Tryz.NJ:Go.Proofs.LaysM.n178 Tryz.prog Tryz.XT:={
 mixed:=by kernel_rfl
 f178:=Tryz.func269.trans (congrArg some (by kernel_rfl))
 f181:=Tryz.func125.trans (congrArg some (by kernel_rfl))
 f184:=Tryz.func327.trans (congrArg some (by kernel_rfl))
 f251:=Tryz.func270.trans (congrArg some (by kernel_rfl))
 f252:=Tryz.func271.trans (congrArg some (by kernel_rfl))
 f290:=Tryz.func328.trans (congrArg some (by kernel_rfl))
 f324:=Tryz.func349.trans (congrArg some (by kernel_rfl))
 t0:=Tryz.underlying0
 a0:=Tryz.isAgg0
 z0:=Tryz.sizeOf0
 v0:=Tryz.zeroValue0
 t3:=Tryz.underlying3
 a3:=Tryz.isAgg3
 z3:=Tryz.sizeOf3
 v3:=Tryz.zeroValue3
 t4:=Tryz.underlying4
 a4:=Tryz.isAgg4
 z4:=Tryz.sizeOf4
 v4:=Tryz.zeroValue4
 t9:=Tryz.underlying9
 a9:=Tryz.isAgg9
 z9:=Tryz.sizeOf9
 v9:=Tryz.zeroValue9
 t20:=Tryz.underlying20
 a20:=Tryz.isAgg20
 z20:=Tryz.sizeOf20
 v20:=Tryz.zeroValue20
 t37:=Tryz.underlying115
 a37:=Tryz.isAgg115
 z37:=Tryz.sizeOf115
 v37:=Tryz.zeroValue115
 t75:=Tryz.underlying261
 a75:=Tryz.isAgg261
 z75:=Tryz.sizeOf261
 v75:=Tryz.zeroValue261
 t91:=Tryz.underlying200
 a91:=Tryz.isAgg200
 z91:=Tryz.sizeOf200
 v91:=Tryz.zeroValue200
 t93:=Tryz.underlying202
 a93:=Tryz.isAgg202
 z93:=Tryz.sizeOf202
 v93:=Tryz.zeroValue202
 t130:=Tryz.underlying265
 a130:=Tryz.isAgg265
 z130:=Tryz.sizeOf265
 v130:=Tryz.zeroValue265
 t131:=Tryz.underlying287
 a131:=Tryz.isAgg287
 z131:=Tryz.sizeOf287
 v131:=Tryz.zeroValue287
 g14:=by kernel_rfl
 t5:=Tryz.underlying5
 a5:=Tryz.isAgg5
 z5:=Tryz.sizeOf5
 v5:=Tryz.zeroValue5
 t80:=Tryz.underlying298
 a80:=Tryz.isAgg298
 z80:=Tryz.sizeOf298
 v80:=Tryz.zeroValue298
 i0:=by kernel_rfl
 i3:=by kernel_rfl
 i4:=by kernel_rfl
 i5:=by kernel_rfl
 i9:=by kernel_rfl
 i20:=by kernel_rfl
 i37:=by kernel_rfl
 i75:=by kernel_rfl
 i80:=by kernel_rfl
 i91:=by kernel_rfl
 i93:=by kernel_rfl
 i130:=by kernel_rfl
 i131:=by kernel_rfl
 m14:=by kernel_rfl }
def Tryz.XU:Go.Shelf.Ren:=⟨fun|179=>202|251=>270|252=>271|181=>125|184=>327|290=>328|324=>349|n=>n,fun|130=>265|5=>5|75=>261|0=>0|93=>202|91=>200|3=>3|131=>287|4=>4|37=>115|20=>20|80=>298|9=>9|n=>n,fun|14=>1|n=>n⟩
theorem Tryz.NK:Go.Proofs.LaysM.n179 Tryz.prog Tryz.XU:={
 mixed:=by kernel_rfl
 f179:=Tryz.func202.trans (congrArg some (by kernel_rfl))
 f181:=Tryz.func125.trans (congrArg some (by kernel_rfl))
 f184:=Tryz.func327.trans (congrArg some (by kernel_rfl))
 f251:=Tryz.func270.trans (congrArg some (by kernel_rfl))
 f252:=Tryz.func271.trans (congrArg some (by kernel_rfl))
 f290:=Tryz.func328.trans (congrArg some (by kernel_rfl))
 f324:=Tryz.func349.trans (congrArg some (by kernel_rfl))
 t0:=Tryz.underlying0
 a0:=Tryz.isAgg0
 z0:=Tryz.sizeOf0
 v0:=Tryz.zeroValue0
 t3:=Tryz.underlying3
 a3:=Tryz.isAgg3
 z3:=Tryz.sizeOf3
 v3:=Tryz.zeroValue3
 t4:=Tryz.underlying4
 a4:=Tryz.isAgg4
 z4:=Tryz.sizeOf4
 v4:=Tryz.zeroValue4
 t5:=Tryz.underlying5
 a5:=Tryz.isAgg5
 z5:=Tryz.sizeOf5
 v5:=Tryz.zeroValue5
 t20:=Tryz.underlying20
 a20:=Tryz.isAgg20
 z20:=Tryz.sizeOf20
 v20:=Tryz.zeroValue20
 t37:=Tryz.underlying115
 a37:=Tryz.isAgg115
 z37:=Tryz.sizeOf115
 v37:=Tryz.zeroValue115
 t75:=Tryz.underlying261
 a75:=Tryz.isAgg261
 z75:=Tryz.sizeOf261
 v75:=Tryz.zeroValue261
 t91:=Tryz.underlying200
 a91:=Tryz.isAgg200
 z91:=Tryz.sizeOf200
 v91:=Tryz.zeroValue200
 t93:=Tryz.underlying202
 a93:=Tryz.isAgg202
 z93:=Tryz.sizeOf202
 v93:=Tryz.zeroValue202
 t130:=Tryz.underlying265
 a130:=Tryz.isAgg265
 z130:=Tryz.sizeOf265
 v130:=Tryz.zeroValue265
 t131:=Tryz.underlying287
 a131:=Tryz.isAgg287
 z131:=Tryz.sizeOf287
 v131:=Tryz.zeroValue287
 g14:=by kernel_rfl
 t9:=Tryz.underlying9
 a9:=Tryz.isAgg9
 z9:=Tryz.sizeOf9
 v9:=Tryz.zeroValue9
 t80:=Tryz.underlying298
 a80:=Tryz.isAgg298
 z80:=Tryz.sizeOf298
 v80:=Tryz.zeroValue298
 i0:=by kernel_rfl
 i3:=by kernel_rfl
 i4:=by kernel_rfl
 i5:=by kernel_rfl
 i9:=by kernel_rfl
 i20:=by kernel_rfl
 i37:=by kernel_rfl
 i75:=by kernel_rfl
 i80:=by kernel_rfl
 i91:=by kernel_rfl
 i93:=by kernel_rfl
 i130:=by kernel_rfl
 i131:=by kernel_rfl
 m14:=by kernel_rfl }
def Tryz.XV:Go.Shelf.Ren:=⟨fun|180=>268|251=>270|252=>271|181=>125|184=>327|290=>328|324=>349|n=>n,fun|130=>265|37=>115|3=>3|75=>261|0=>0|93=>202|91=>200|131=>287|4=>4|20=>20|5=>5|80=>298|9=>9|n=>n,fun|14=>1|n=>n⟩
theorem Tryz.XW:Go.Proofs.LaysM.n180 Tryz.prog Tryz.XV:={
 mixed:=by kernel_rfl
 f180:=Tryz.func268.trans (congrArg some (by kernel_rfl))
 f181:=Tryz.func125.trans (congrArg some (by kernel_rfl))
 f184:=Tryz.func327.trans (congrArg some (by kernel_rfl))
 f251:=Tryz.func270.trans (congrArg some (by kernel_rfl))
 f252:=Tryz.func271.trans (congrArg some (by kernel_rfl))
 f290:=Tryz.func328.trans (congrArg some (by kernel_rfl))
 f324:=Tryz.func349.trans (congrArg some (by kernel_rfl))
 t0:=Tryz.underlying0
 a0:=Tryz.isAgg0
 z0:=Tryz.sizeOf0
 v0:=Tryz.zeroValue0
 t3:=Tryz.underlying3
 a3:=Tryz.isAgg3
 z3:=Tryz.sizeOf3
 v3:=Tryz.zeroValue3
 t4:=Tryz.underlying4
 a4:=Tryz.isAgg4
 z4:=Tryz.sizeOf4
 v4:=Tryz.zeroValue4
 t20:=Tryz.underlying20
 a20:=Tryz.isAgg20
 z20:=Tryz.sizeOf20
 v20:=Tryz.zeroValue20
 t37:=Tryz.underlying115
 a37:=Tryz.isAgg115
 z37:=Tryz.sizeOf115
 v37:=Tryz.zeroValue115
 t75:=Tryz.underlying261
 a75:=Tryz.isAgg261
 z75:=Tryz.sizeOf261
 v75:=Tryz.zeroValue261
 t91:=Tryz.underlying200
 a91:=Tryz.isAgg200
 z91:=Tryz.sizeOf200
 v91:=Tryz.zeroValue200
 t93:=Tryz.underlying202
 a93:=Tryz.isAgg202
 z93:=Tryz.sizeOf202
 v93:=Tryz.zeroValue202
 t130:=Tryz.underlying265
 a130:=Tryz.isAgg265
 z130:=Tryz.sizeOf265
 v130:=Tryz.zeroValue265
 t131:=Tryz.underlying287
 a131:=Tryz.isAgg287
 z131:=Tryz.sizeOf287
 v131:=Tryz.zeroValue287
 g14:=by kernel_rfl
 t5:=Tryz.underlying5
 a5:=Tryz.isAgg5
 z5:=Tryz.sizeOf5
 v5:=Tryz.zeroValue5
 t9:=Tryz.underlying9
 a9:=Tryz.isAgg9
 z9:=Tryz.sizeOf9
 v9:=Tryz.zeroValue9
 t80:=Tryz.underlying298
 a80:=Tryz.isAgg298
 z80:=Tryz.sizeOf298
 v80:=Tryz.zeroValue298
 i0:=by kernel_rfl
 i3:=by kernel_rfl
 i4:=by kernel_rfl
 i5:=by kernel_rfl
 i9:=by kernel_rfl
 i20:=by kernel_rfl
 i37:=by kernel_rfl
 i75:=by kernel_rfl
 i80:=by kernel_rfl
 i91:=by kernel_rfl
 i93:=by kernel_rfl
 i130:=by kernel_rfl
 i131:=by kernel_rfl
 m14:=by kernel_rfl }
end Go.Proofs
end
section
namespace Go.Proofs.YtfmdaiojokniiaaGreatDoor.P
open Go Go.ay Go.Sort Go.RowKit
def gm(l:List Int):List Int:=l.mergeSort fun x y=>decide (x<=y)
theorem xZ(l:List Int):(gm l).Perm l:=List.mergeSort_perm ..
theorem HQ(l:List Int):(gm l).Pairwise (· <= ·):=by
 have:=List.pairwise_mergeSort (le:=fun x y=>decide (x<=y)) (by intro a b c;simp;omega) (by intro a b;simp;omega) l;exact this.imp fun{a b} h=>by simpa using h
def Oq(P:Program)(f:Nat):Prop:=∀ (blk cap:Nat) (zs:List Int) (w:World),Holds (Value.int .i64) w blk 0 zs.toArray->blk<w.heap.size->zs.length<4611686018427387904 ->
 Calls P f #[.slice (some ⟨blk,0,none⟩) zs.length cap] w fun e w'=>e=.returned (.tuple #[])/\∃ n os,w'=grow (putRow (Value.int .i64) (Sort.ahead w n) blk 0 (gm zs).toArray) os
theorem Y0{w:World}{blk n:Nat}{d:Array Int}{os:Array Obj}{vs:Array Value}{ty:TypeId}(hb:w.heap[blk]?=some (.cells vs ty (0,0))) :
  let w':=grow (putRow (Value.int .i64) (Sort.ahead w n) blk 0 d) os
  w'.os=w.os/\w'.tape=w.tape/\w'.output=w.output/\w.heap.size<=w'.heap.size/\(∀ b,b<w.heap.size->b≠blk->w'.heap[b]?=w.heap[b]?)/\w'.heap[blk]?=some (.cells (putCells (Value.int .i64) 0 d vs) ty (0,0)):=by
 intro w';have ah:blk<w.heap.size:=by
  rcases Nat.lt_or_ge blk w.heap.size with h|h
  ·exact h
  ·rw[Array.getElem?_eq_none h]at hb;cases hb
 have bP:(putRow (Value.int .i64) (Sort.ahead w n) blk 0 d).heap.size=w.heap.size:=by simp[putRow,mapBlock]
 refine⟨rfl,rfl,rfl,?_,fun b cw aI=>?_,?_⟩
 ·show w.heap.size<=(grow _ os).heap.size;rw[size_grow,bP];omega
 ·show(grow _ os).heap[b]?=_;rw[heap_grow_old _ _ (by rw[bP];exact cw)];simp[putRow,mapBlock,Array.getElem?_modify,Ne.symm aI]
 ·show(grow _ os).heap[blk]?=_;rw[heap_grow_old _ _ (by rw[bP];exact ah)];simp[putRow,mapBlock,Array.getElem?_modify,hb,onCells]
theorem Y1{E:Env}{f:FuncId}{t:Nat}(hS:Oq E.P f)(fb:lq E.P f)(l:List Int)(hl:l≠[])(hlen:l.length<4611686018427387904) :
  ar E f [.arr 0 (t,1) (l.map (DV.int .i64))] [.own 0 0] (fun a b=>a=.aD []/\b=[.arr 0 (t,1) ((gm l).map (DV.int .i64))]):=by
 unfold ar;refine⟨fb,jR rfl,fun c vs h1 h2 h3=>?_⟩;obtain⟨v1,rfl⟩:∃ v1,vs=[v1]:=by
  have:=h3.1
  match vs,this with
  |[a],_=>exact⟨a,rfl⟩
 have kI:=h3.2 0 _ v1 rfl rfl;have dq:c.heap[0]?=some (.arr 0 (t,1) (l.map (DV.int .i64))):=by rw[h1];rfl
 rcases kC dq kI with⟨blk,cap,r1,rfl⟩|⟨nj,-,-⟩
 case inr=>exact absurd (List.map_eq_nil_iff.1 nj) hl
 obtain⟨q0,q1,q2⟩:=h2.box 0 _ dq;rcases q2 with⟨q2,-⟩|⟨iM,gV,vs',q2,q3,q4,q5,q6,q7⟩
 ·rw[r1]at q2;cases q2
 rw[r1]at q2;cases q2;simp only at q3 q4 q7;have dK:∀ (i:Nat) (x:Int),l[i]?=some x->vs'[i]?=some (.int .i64 x):=fun i x hx=>by
  have he:(l.map (DV.int .i64))[i]?=some (DV.int .i64 x):=by simp[hx]
  obtain⟨v,a1,a2,a3⟩:=q7 i 0 (DV.int .i64 x) (.int .i64 x) he rfl;rw[G9 a3]at a1
  simpa using a1
 have hH:Holds (Value.int .i64) c.w blk 0 l.toArray:=by
  intro j hj;have eK:j<l.length:=by simpa using hj
  obtain⟨x,hx⟩:∃ x,l[j]?=some x:=⟨l[j]'(by omega),by rw[List.getElem?_eq_getElem]⟩;have wh:l.toArray[j]! = x:=by
   rw[getElem!_pos l.toArray j (by simpa using eK)];have:=List.getElem?_eq_some_iff.1 hx
   simpa using this.2
  refine⟨?_,by simp[World.frozen?,q3]⟩;rw[wh];exact lY q3 _ _ (by simpa using dK j x hx)
 have hblk:=(h2.bA 0 blk cap r1).1;have iU:=hS blk cap l c.w hH hblk hlen;have jK:([Value.slice (some ⟨blk,0,none⟩) (l.map (DV.int .i64)).length cap]:List Value).toArray = #[.slice (some ⟨blk,0,none⟩) l.length cap]:=by simp
 rw[jK];refine iU.mono fun e w' ⟨he,n,os,hw⟩=>?_;subst he;have fj:(gm l).length=l.length:=(xZ l).length_eq;obtain⟨a1,a2,a3,a4,a5,a6⟩:=Y0 (n:=n) (d:=(gm l).toArray) (os:=os) q3;rw[<- hw]at a1 a2 a3 a4 a5 a6
 let c':Cx:={ c with heap:=[.arr 0 (t,1) ((gm l).map (DV.int .i64))],w:=w' }
 have bW:∀ i bx,c.heap[i]?=some bx->i=0/\bx=.arr 0 (t,1) (l.map (DV.int .i64)):=fun i bx hi=>by
  rw[h1]at hi;cases i with
  |zero=>simp at hi;exact⟨rfl,hi.symm⟩
  |succ i=>simp at hi
 have oI:((gm l).map (DV.int .i64)).length=(l.map (DV.int .i64)).length:=by simp[fj]
 have bg:ay.Step c c':=⟨rfl,h2.bQ,a1,a2,a3,a4,fun b hb hn=>a5 b hb (fun e=>by subst e;exact hn 0 cap r1),fun i b n hi _=>⟨n,hi⟩,fun i bx hi=>by
  obtain⟨rfl,rfl⟩:=bW i bx hi
  exact .inl ⟨0,_,rfl,.inr ⟨rfl,oI,rfl⟩⟩⟩
 have aM:aK E.G c':=h2.next bg (fun i b n hi=>by
   have:=h2.bA i b n hi;refine⟨Nat.lt_of_lt_of_le this.1 a4,?_⟩;have h0:c.heap.length=1:=by rw[h1];rfl
   show i<1;omega) h2.inj (fun i bx hi=>by
  right;cases i with
  |succ i=>simp[c']at hi
  |zero =>
   simp[c']at hi;subst hi;refine⟨q0,fun i e he=>?_,.inr ⟨blk,cap,_,r1,a6,?_,?_,q6,fun i j e x he hx=>?_⟩⟩
   ·simp only[List.getElem?_map]at he;cases hq:(gm l)[i]? with
    |none=>rw[hq]at he;cases he
    |some y=>rw[hq]at he;cases he;rfl
   ·simp[putCells,q4]
   ·rw[oI];exact q5
   ·simp only[List.getElem?_map]at he;cases hq:(gm l)[i]? with
    |none=>rw[hq]at he;cases he
    |some y =>
     rw[hq]at he;cases he;have hi:i<l.length:=by have:=aQ hq;omega
     have dm:vs'.size=cap*1:=q4;have dA:(l.map (DV.int .i64)).length=l.length:=by simp
     have kg:l.length<=cap:=by rw[<- dA];exact q5
     have hy:(gm l).toArray[i]! = y:=by
      rw[getElem!_pos (gm l).toArray i (by simp;omega)];have:=List.getElem?_eq_some_iff.1 hq
      simpa using this.2
     have at_:(putCells (Value.int .i64) 0 (gm l).toArray vs')[i]?=some (.int .i64 y):=by
      have h5:i<vs'.size:=by omega
      simp only[putCells,Array.getElem?_mapIdx,Array.getElem?_eq_getElem h5,Option.map_some];rw[if_pos ⟨Nat.zero_le _,by simp;omega⟩,Nat.sub_zero,hy]
     match j with
     |0 =>
      simp[DV.cells]at hx;subst hx;exact⟨_,by simpa using at_,rfl,.int _ _⟩
     |j+1=>simp[DV.cells]at hx)
 refine⟨c',.aD [],.tuple #[],rfl,rfl,⟨rfl,rfl⟩,.aD [] #[] rfl (fun j x v hx=>by simp at hx),aM,?_⟩
 exact⟨rfl,a1,a2,a3,a4,fun b hb hn=>a5 b hb (fun e=>by subst e;exact hn 0 cap r1),fun i b n hi _=>⟨n,hi⟩,fun i bx hi=>by
  obtain⟨rfl,rfl⟩:=bW i bx hi
  exact .inl ⟨0,_,rfl,.inr ⟨rfl,oI,rfl⟩⟩⟩
end Go.Proofs.YtfmdaiojokniiaaGreatDoor.P
end
