/- Lemmas of mine. Conditions: as stated. -/
import Derived.Test.YtcmnpelmmekdkaaGreatDoorV0
import Derived.Lib.SmallJoins
import Derived.RangeFuncNested
import Derived.RangeFuncBound
import Derived.RangeFuncCalls
import Derived.RangeFuncLeaves
import Derived.Shelf.Abstract
import Derived.Shelf.RegionOpen
import Derived.OwnWalkIn
import Derived.TacticsInMore
import Derived.LoopNIn
import Derived.LoopIn
import Derived.RangeFuncFrom
import Derived.Lib.Bytealg
import Derived.RangeFuncBox
import Derived.Laws.MakeOwn
set_option linter.unusedVariables false
set_option linter.unusedSimpArgs false
section
namespace Go.Proofs.YtcmnpelmmekdkaaGreatDoor.Nm
def split:List UInt8->List (List UInt8)
 |[]=>[[]]
 |c::r=>if c=46 then[]::split r else match split r with
  |[]=>[[c]]
  |h::t=>(c::h)::t
theorem nR(l:List UInt8):split l≠[]:=by
 cases l with
 |nil=>simp[split]
 |cons c r=>simp only[split];split<;>(try split)<;>simp
theorem rv(c:UInt8)(r:List UInt8)(h:c≠46):∃ x t,split r=x::t/\split (c::r)=(c::x)::t:=by
 have:=nR r
 match hr:split r,this with
 |x::t,_=>exact⟨x,t,rfl,by simp[split,h,hr]⟩
theorem CE(a b:List UInt8):split (a++46::b)=split a++split b:=by
 induction a with
 |nil=>simp[split]
 |cons c r ih =>
  by_cases h:c=46
  ·subst h;simp[split,ih]
  ·obtain⟨x,t,h1,h2⟩:=rv c r h;obtain⟨y,u,h3,h4⟩:=rv c (r++46::b) h;rw[List.cons_append,h4,h2];rw[ih,h1]at h3;simp only[List.cons_append,List.cons.injEq]at h3;obtain⟨rfl,rfl⟩:=h3;rfl
theorem zS(l:List UInt8)(h:46 ∉ l):split l=[l]:=by
 induction l with
 |nil=>rfl
 |cons c r ih =>
  simp only[List.mem_cons,not_or]at h;have hc:c≠46:=fun e=>h.1 e.symm;simp[split,hc,ih h.2]
theorem Uv(l:List UInt8):split (l++[46])=split l++[[]]:=CE l []
theorem Uw(l:List UInt8)(c:UInt8)(h:c≠46):∃ i x,split l=i++[x]/\split (l++[c])=i++[x++[c]]:=by
 induction l with
 |nil=>exact⟨[],[],rfl,by simp[split,h]⟩
 |cons d r ih =>
  obtain⟨i,x,h1,h2⟩:=ih;by_cases hd:d=46
  ·subst hd;exact⟨[]::i,x,by simp[split,h1],by simp[split,h2]⟩
  ·obtain⟨y,u,h3,h4⟩:=rv d r hd;obtain⟨z,v,h5,h6⟩:=rv d (r++[c]) hd;rw[h1]at h3;rw[h2]at h5;rw[List.cons_append,h6,h4];cases i with
   |nil =>
    simp only[List.nil_append,List.cons.injEq]at h3 h5;obtain⟨rfl,rfl⟩:=h3;obtain⟨rfl,rfl⟩:=h5;exact⟨[],d::x,rfl,rfl⟩
   |cons p q =>
    simp only[List.cons_append,List.cons.injEq]at h3 h5;obtain⟨rfl,rfl⟩:=h3;obtain⟨rfl,rfl⟩:=h5;exact⟨(d::p)::q,x,rfl,rfl⟩
theorem LS(l:List UInt8):∀ x∈split l,46 ∉ x:=by
 induction l with
 |nil=>simp[split]
 |cons c r ih =>
  by_cases hc:c=46
  ·subst hc;simp only[split,if_true];intro x hx;rcases List.mem_cons.1 hx with rfl|h
   ·simp
   ·exact ih x h
  ·obtain⟨y,u,h1,h2⟩:=rv c r hc;rw[h2];intro x hx;rcases List.mem_cons.1 hx with rfl|h
   ·simp only[List.mem_cons,not_or];exact⟨fun e=>hc e.symm,ih y (by rw[h1];simp)⟩
   ·exact ih x (by rw[h1];simp[h])
def glue:List (List UInt8)->List UInt8
 |[]=>[]
 |[x]=>x
 |x::y::t=>x++46::glue (y::t)
theorem vp(l:List UInt8):glue (split l)=l:=by
 induction l with
 |nil=>rfl
 |cons c r ih =>
  by_cases hc:c=46
  ·subst hc;simp only[split,if_true];have:=nR r
   match hr:split r,this with
   |x::t,_=>rw[hr]at ih;simp[glue,ih]
  ·obtain⟨y,u,h1,h2⟩:=rv c r hc;rw[h2];rw[h1]at ih;cases u with
   |nil=>simp only[glue]at ih ⊢;rw[ih]
   |cons z v=>simp only[glue,List.cons_append]at ih ⊢;rw[ih]
theorem LU(ls:List (List UInt8))(aM:ls≠[])(h:∀ x∈ls,46 ∉ x):split (glue ls)=ls:=by
 induction ls with
 |nil=>exact absurd rfl aM
 |cons x t ih =>
  cases t with
  |nil=>exact zS x (h x (by simp))
  |cons y u =>
   simp only[glue];rw[CE,zS x (h x (by simp)),ih (by simp) (fun z hz=>h z (by simp[hz]))];rfl
theorem LW(a b:List UInt8)(h:split a=split b):a=b:=by rw[<- vp a,<- vp b,h]
def Gv(c:UInt8):Bool:=(decide (97<=c.toNat)&&decide (c.toNat<=122))||(decide (48<=c.toNat)&&decide (c.toNat<=57))
def nS(l:List UInt8)(i:Nat):Bool:=match l[i]? with
 |some c=>Gv c||(c==45&&decide (0<i)&&decide (i+1<l.length))
 |none=>true
def label(l:List UInt8):Bool:=decide (1<=l.length/\l.length<=12/\∀ i,i<l.length->nS l i=true)
def parts(ls:List (List UInt8)):Bool:=decide (ls.length<=8)&&(match ls with
 |[]=>true
 |x::t=>(label x||x==[42])&&t.all label)
def valid(l:List UInt8):Bool:=decide (l=[46])||(decide (l.length<=60)&&parts (split l))
def labels(l:List UInt8):List (List UInt8):=if l=[46]then[]else split l
def under(s z:List UInt8):Bool:=decide (labels z <:+ labels s)
def ic(l:List UInt8):Bool:=match l with
 |c::_=>c==42
 |[]=>false
end Go.Proofs.YtcmnpelmmekdkaaGreatDoor.Nm
end
section
namespace Go.Proofs.YtcmnpelmmekdkaaGreatDoor
open Go.RowKit
theorem Nm.len(s:ByteArray):s.data.toList.length=s.size:=by show s.data.toList.length=s.data.size;simp
theorem Nm.CF(s:ByteArray)(k:Nat)(h:k<s.size):Nm.nS s.data.toList k=true ↔
  ((97<=(s[k].toNat:Int)/\(s[k].toNat:Int)<=122)\/(48<=(s[k].toNat:Int)/\(s[k].toNat:Int)<=57)\/((s[k].toNat:Int)=45/\0<k/\k+1<s.size)):=by
 have hk:s.data.toList[k]?=some s[k]:=by
  rw[List.getElem?_eq_getElem (by simpa using h)];rfl
 have hl:s.data.toList.length=s.size:=Nm.len s;have Ux:(s[k]==45)=decide ((s[k].toNat:Int)=45):=by
  rw[Bool.eq_iff_iff];simp only[beq_iff_eq,decide_eq_true_eq];constructor
  ·intro e;rw[e];rfl
  ·intro e;apply UInt8.toNat.inj;show _=45;omega
 simp only[Nm.nS,hk,Nm.Gv,hl,Ux];simp;omega
theorem Nm.zT{p:Nat->Bool}{k:Nat}(h:∀ j,j<k->p j=true)(hk:p k=true):∀ j,j<k+1->p j=true:=by
 intro j hj;by_cases e:j=k
 ·subst e;exact hk
 ·exact h j (by omega)
theorem Nm.CG(l:List UInt8)(k:Nat)(h:k<l.length)(hk:Nm.nS l k≠true):false=Nm.label l:=by
 symm;simp only[Nm.label,decide_eq_false_iff_not];rintro⟨_,_,h3⟩;exact hk (h3 k h)
theorem Nm.LX(l:List UInt8)(h:∀ i,i<l.length->Nm.nS l i=true):Nm.label l=decide (1<=l.length/\l.length<=12):=by
 rw[Bool.eq_iff_iff];simp only[Nm.label,decide_eq_true_eq];exact⟨fun h=>⟨h.1,h.2.1⟩,fun g=>⟨g.1,g.2,h⟩⟩
set_option maxHeartbeats 800000 in
theorem zU(s:ByteArray)(w:World)(hs:s.size<=maxLen) :
  Calls Tryz.prog 50 #[.string s] w fun e w'=>e=.returned (.bool (Nm.label s.data.toList))/\w=w':=by
 unfold maxLen at hs;have hlen:s.data.toList.length=s.size:=Nm.len s;have pT:=Lib.hid hlen;clear hlen
 go_enter Tryz.func50,Tryz.ntmps50
 go_wp2
 go_loop [3] (fun i=>∃ k:Nat,k<=s.size/\i=.int .i64 k/\Hid (∀ j,j<k->Nm.nS s.data.toList j=true)) (fun i=>s.size-(intOf i).toNat)
 case atStart=>exact⟨0,Nat.zero_le _,rfl,(fun j hj=>by omega:∀ j,j<0->Nm.nS s.data.toList j=true)⟩
 case round =>
  obtain⟨k,hk,rfl,I⟩:=hrel;by_cases ai:k<s.size
  ·have HL:=Lib.hid (Nm.CF s k ai);by_cases hz:(k:Int)<(s.size:Int)-1;all_goals
    go_wp2
    all_goals first
     |(exfalso;omega)
     |(refine⟨⟨k+1, by omega, by go_num, ?_⟩, by simp[intOf];omega⟩
       exact Nm.zT I.out (HL.out.2 (by omega)))
     |(go_ret
       exact⟨mD (Nm.CG s.data.toList k (by rw[pT.out];exact ai) (fun h => absurd (HL.out.1 h) (by omega))), rfl⟩)
  ·obtain rfl:k=s.size:=by omega
   go_wp2
   all_goals
    go_ret
    exact⟨mD (by rw[Nm.LX s.data.toList (by rw[pT.out];exact I.out),pT.out,Bool.eq_iff_iff];simp;omega),rfl⟩
def At(w:World)(b off:Nat)(cs:List Value):Prop:=∀ j u,cs[j]?=some u->w.cell? ⟨b,off+j,none⟩=some u
theorem At.ext{w w':World}(hx:Ext w w'){b off:Nat}{cs:List Value}(h:At w b off cs):At w' b off cs:=fun j u hj=>hx.keep (h j u hj)
def oQ{α:Type}(R:World->List Value->α->Prop)(size:Nat)(w:World)(v:Value)(l:List α):Prop :=
 ∃ a cap,v=.slice a l.length cap/\l.length<=cap/\cap<=maxLen /\
  (∀ b,a=some b->b.spot=none) /\
  ∀ (i:Nat) (x:α),l[i]?=some x->∃ b off cs,a=some ⟨b,off,none⟩/\cs.length=size/\At w b (off+i*size) cs/\R w cs x
def Uy{α:Type}(R:World->List Value->α->Prop):Prop:=∀ (w w':World) (cs:List Value) (x:α),Ext w w'->R w cs x->R w' cs x
theorem oQ.ext{α:Type}{R:World->List Value->α->Prop}(hR:Uy R){size:Nat}{w w':World}{v:Value}{l:List α}(hx:Ext w w')(h:oQ R size w v l):oQ R size w' v l:=by
 obtain⟨a,cap,h1,h2,h3,h4,h5⟩:=h;refine⟨a,cap,h1,h2,h3,h4,fun i x hi=>?_⟩;obtain⟨b,off,cs,g1,g2,g3,g4⟩:=h5 i x hi;exact⟨b,off,cs,g1,g2,g3.ext hx,hR _ _ _ _ hx g4⟩
theorem oQ.LY{α:Type}{R:World->List Value->α->Prop}{size:Nat}{w:World}{base:Nat}{e:TypeId}{v:Value}{n:Nat}{xs:List Value}{l:List α}(h:w.ownsRow base e size v n xs)(hl:l.length=n)
  (hR:∀ (i:Nat) (x:α),l[i]?=some x->R w ((xs.drop (i*size)).take size) x):oQ R size w v l:=by
 subst hl;obtain⟨hlen,h1|⟨g,cap,cur,h1,h2,h3,h4,h5,h6,h7⟩⟩:=h
 ·obtain⟨rfl,h0⟩:=h1;refine⟨none,0,by rw[h0],by omega,by unfold maxLen;omega,(fun b hb=>by cases hb),fun i x hi=>?_⟩;rw[List.eq_nil_of_length_eq_zero h0]at hi;simp at hi
 ·have h:w.ownsRow base e size v l.length xs:=⟨hlen,.inr ⟨g,cap,cur,h1,h2,h3,h4,h5,h6,h7⟩⟩;subst h1;refine⟨some ⟨g,0,none⟩,cap,rfl,h4,h5,(fun b hb=>by cases hb;rfl),fun i x hi=>?_⟩;have iZ:i<l.length:=(List.getElem?_eq_some_iff.1 hi).1;have hb:i*size+size<=l.length*size:=by
   have:(i+1)*size<=l.length*size:=Nat.mul_le_mul_right _ iZ
   rwa [Nat.add_mul,Nat.one_mul]at this
  refine⟨g,0,(xs.drop (i*size)).take size,rfl,by rw[List.length_take,List.length_drop,hlen];omega,fun j u hj=>?_,hR i x hi⟩;have dL:j<size:=by
   have:=(List.getElem?_eq_some_iff.1 hj).1;rw[List.length_take]at this;omega
  have hc:=h.cellAt (i*size+j) (by omega);rw[List.getElem?_take,if_pos dL,List.getElem?_drop]at hj;rw[hj]at hc
  simpa using hc
def Gw(_:World)(cs:List Value)(s:ByteArray):Prop:=cs=[.string s]/\s.size<=maxLen
structure Datum where
 text:ByteArray
 n:Int
 m:Int
structure eM where
 name:ByteArray
 type:Int
 jD:Int
 data:List Datum
structure Key where
 n:Int
 pU:Int
structure iS where
 aC:ByteArray
 key:Int
 pU:Int
 ry:Int
 til:Int
 sum:Int
structure Signed where
 set:eM
 sigs:List iS
structure aQ where
 ad:ByteArray
 ab:List Signed
def jE(n:Int):Prop := -9223372036854775808<=n/\n<=9223372036854775807
def Gx(n:Int):Prop:=0<=n/\n<=18446744073709551615
abbrev aw(s:ByteArray):List UInt8:=s.data.toList
theorem zV{a b:ByteArray}(h:aw a=aw b):a=b:=by
 cases a;cases b;congr 1;exact Array.toList_inj.1 h
theorem Tryz.Uz:(Tryz.prog.info? 9).map (fun i=>(i.zero,i.size,i.bytes))=some (some (.string ⟨#[]⟩),1,16):=by kernel_rfl
theorem Nm.LZ(l:List UInt8)(k:Nat)(c:UInt8)(hk:l[k]?=some c)(hc:c=46):Nm.split (l.take (k+1))=Nm.split (l.take k)++[[]]:=by
 subst hc;rw[List.take_add_one,hk];exact Nm.Uv _
theorem Nm.L3(l:List UInt8)(k:Nat)(c:UInt8)(hk:l[k]?=some c)(hc:c≠46)(i:List (List UInt8))(x:List UInt8)(h:Nm.split (l.take k)=i++[x]):Nm.split (l.take (k+1))=i++[x++[c]]:=by
 rw[List.take_add_one,hk];obtain⟨i',x',h1,h2⟩:=Nm.Uw (l.take k) c hc;rw[h1]at h;obtain⟨rfl,e⟩:=List.append_inj' h rfl;simp only[List.cons.injEq,and_true]at e;subst e;exact h2
theorem Nm.UA(s:ByteArray)(k:Nat)(h:k<s.size):aw (s.extract k (k+1))=[s[k]]:=by
 have h1:(s.extract k (k+1)).data=s.data.extract k (k+1):=ByteArray.data_extract;show(s.extract k (k+1)).data.toList=_;rw[h1,Array.toList_extract,List.extract_eq_take_drop,show k+1-k=1 by omega];have hk:k<s.data.toList.length:=by simpa using h
 rw[List.drop_eq_getElem_cons hk];rfl
def L4{α:Type}(R:World->Value->α->Prop)(P:α->Prop)(w:World)(e:Ending)(w':World):Prop:=∃ v x,e=.returned v/\P x/\R w' v x/\Ext w w'
set_option maxHeartbeats 1000000 in
theorem L5(s:ByteArray)(w:World)(hs:s.size<=1000) :
  Calls Tryz.prog 49 #[.string s] w (L4 (oQ Gw 1) (fun xs:List ByteArray=>xs.map aw=Nm.split (aw s)) w):=by
 obtain⟨i0,hi,Gy,jT,iv⟩:=info_parts Tryz.Uz
 go_enter Tryz.func49,Tryz.ntmps49
 go_wp2
 go_loopw [3,4] (fun v i wr=>∃ (k:Nat) (xs:List ByteArray),k<=s.size/\i=.int .i64 k/\xs.length<=k+1/\wr.ownsRow w.heap.size 9 1 v xs.length (xs.map Value.string)/\Ext w wr /\
   Hid (xs.map aw=Nm.split ((aw s).take k)/\∀ x∈xs,x.size<=k)) (fun _ i _=>s.size-(intOf i).toNat)
 case atStart =>
  refine⟨0,[⟨#[]⟩],Nat.zero_le _,rfl,by simp,?_,(Ext.refl _).alloc _,(⟨rfl,fun z hz=>by rw[List.mem_singleton.1 hz];exact Nat.le_refl _⟩:_/\_)⟩;exact⟨by simp,.inr ⟨w.heap.size,1,#[.string ⟨#[]⟩],rfl,Nat.le_refl _,heap_alloc_new w _,by simp,by unfold maxLen;omega,by simp,by simp⟩⟩
 case round =>
  obtain⟨k,xs,hk,rfl,iT,bJ,hx,I⟩:=hrel;by_cases ai:k<s.size
  ·have CH:∃ ys x,xs=ys++[x]:=by
    have:=Nm.nR ((aw s).take k);rw[<- I.out.1]at this;exact⟨xs.dropLast,xs.getLast (by simpa using this),(List.dropLast_concat_getLast _).symm⟩
   obtain⟨ys,x,rfl⟩:=CH;obtain⟨g,cap,rfl⟩:=Joins.ownsRow_form bJ (by simp);have ado:ys.length<=k:=by simpa using iT
   have iQ:=bJ.lt g rfl;have L6:(aw s)[k]?=some s[k]:=by rw[List.getElem?_eq_getElem (by simpa [aw]using ai)];rfl
   have L7:=Lib.hid L6;clear L6 iT;by_cases hd:s[k]=46
   ·have hb:((s[k].toNat:Int)==46)=true:=by rw[hd];rfl
    have HD:=Lib.hid hd;clear hd
    go_wp2_with (at_builtin;refine wpList_append_own _ rfl _ _ 32 rfl w.heap.size 9 i0 (.string ⟨#[]⟩) 1 16 Tryz.underlying32 hi Gy jT iv rfl (by decide) _ _ _ rfl (bJ.alloc _) ⟨wr.heap.size,0,none⟩ 1 1 [.string ⟨#[]⟩] rfl rfl (cell_one_new _ _ _) (by simp[Value.oneCell']) ?c3 ?c4 ?c5 ?_)
    case c3=>simp;unfold maxLen;omega
    case c4=>simp;omega
    case c5=>simp;have:=hx.size;omega
    intro v' w1 L8 L9 _;have hX:=(hx.alloc (.cells #[.string ⟨#[]⟩] 9)).grown L9 (fun j e=>by cases e;exact iQ.1);have H1:=Lib.hid L8;clear L8 L9 bJ
    go_wp2
    go_roundw
    case rel =>
     refine⟨k+1,ys++[x]++[⟨#[]⟩],by omega,by go_num,by simp;omega,by simpa using H1.out,hX,(⟨?_,?_⟩:_/\_)⟩
     ·rw[Nm.LZ _ k _ L7.out HD.out,<- I.out.1];simp
     ·intro z hz;simp only[List.mem_append,List.mem_singleton]at hz;rcases hz with hz|rfl
      ·have:=I.out.2 z (by simpa using hz);omega
      ·exact Nat.zero_le _
    case measure=>simp[intOf];omega
   ·have hb:((s[k].toNat:Int)==46)=false:=by
     simp only[beq_eq_false_iff_ne];intro e;apply hd;apply UInt8.toNat.inj;show _=46;omega
    have HD:=Lib.hid hd;clear hd;have hc:=bJ.cellAt ys.length (by simp);have sA:wr.cell? ⟨g,ys.length,none⟩=some (.string x):=by rw[hc];simp
    have hf:=bJ.frozenAt ys.length;clear hc;have ov:x.size<=k:=I.out.2 x (by simp);have jt:(s.extract k (k+1)).size<=1:=by rw[ByteArray.size_extract];omega
    have Cg:∀ W,(Op.stringOp .add x (s.extract k (k+1))).run Tryz.prog W=.ok (.string (x++s.extract k (k+1))) W:=fun W=>run_string_add_sum W _ _ (by omega);have UB:=Lib.hid (Nm.UA s k ai)
    go_wp2
    go_region
    have aT:=bJ.stored ys.length (.string (x++s.extract k (k+1)));have H1:=Lib.hid aT.1.drew;have hX:Ext w (wr.setCell ⟨g,ys.length,none⟩ (.string (x++s.extract k (k+1)))).drew:=(hx.setCell iQ.1 _).drew;clear aT bJ sA hf Cg
    go_wp2
    go_roundw
    case rel =>
     have gh:Nm.split ((aw s).take k)=ys.map aw++[aw x]:=by rw[<- I.out.1];simp
     refine⟨k+1,ys++[x++s.extract k (k+1)],by omega,by go_num,by simp;omega,?_,hX,(⟨?_,?_⟩:_/\_)⟩
     ·have h1:=H1.out;simp only[List.map_append,List.map_cons,List.map_nil]at h1;rw[List.set_append_right _ _ (by simp)]at h1
      simpa using h1
     ·rw[Nm.L3 _ k _ L7.out HD.out _ _ gh];simp[aw];have:=UB.out
      simpa [aw]using this
     ·intro z hz;simp only[List.mem_append,List.mem_singleton]at hz;rcases hz with hz|rfl
      ·have:=I.out.2 z (by simp[hz]);omega
      ·rw[ByteArray.size_append];omega
    case measure=>simp[intOf];omega
  ·obtain rfl:k=s.size:=by omega
   have Gz:=Joins.ownsRow_forms bJ
   go_wp2
   go_ret
   refine⟨_,xs,rfl,?_,oQ.LY bJ rfl (fun i z hz=>?_),hx⟩
   ·show xs.map aw=_;rw[I.out.1,List.take_of_length_le (Nat.le_of_eq (Nm.len s))]
   ·have hi:=(List.getElem?_eq_some_iff.1 hz);refine⟨?_,?_⟩
    ·rw[Nat.mul_one,List.drop_eq_getElem_cons (by simpa using hi.1)];simp[hi.2]
    ·have:=I.out.2 z (List.mem_of_getElem? hz);unfold maxLen;omega
theorem oQ.strs{w:World}{v:Value}{xs:List ByteArray}(h:oQ Gw 1 w v xs):∃ a cap,v=.slice a xs.length cap/\xs.length<=cap/\cap<=maxLen /\
  ∀ (i:Nat) (x:ByteArray),xs[i]?=some x->∃ b off,a=some ⟨b,off,none⟩/\w.cell? ⟨b,off+i,none⟩=some (.string x)/\x.size<=maxLen:=by
 obtain⟨a,cap,h1,h2,h3,_,h5⟩:=h;refine⟨a,cap,h1,h2,h3,fun i x hi=>?_⟩;obtain⟨b,off,cs,g1,g2,g3,g4,g5⟩:=h5 i x hi;subst g4;have:=g3 0 _ rfl;rw[Nat.mul_one,Nat.add_zero]at this;exact⟨b,off,g1,this,g5⟩
theorem zW(a b:ByteArray):(a.toList==b.toList)=decide (aw a=aw b):=by
 rw[ByteArray.toList_eq,ByteArray.toList_eq,Bool.eq_iff_iff];simp only[beq_iff_eq,decide_eq_true_eq]
def Nm.kh(ls:List (List UInt8))(i:Nat):Bool:=match ls[i]? with
 |some x=>Nm.label x||(decide (i=0)&&decide (x=[42]))
 |none=>true
theorem Nm.mX(ls:List (List UInt8)):Nm.parts ls=true↔ls.length<=8/\∀ i,i<ls.length->Nm.kh ls i=true:=by
 cases ls with
 |nil=>simp[Nm.parts]
 |cons x t =>
  simp only[Nm.parts,Bool.and_eq_true,decide_eq_true_eq,Bool.or_eq_true,beq_iff_eq,List.all_eq_true];constructor
  ·rintro⟨h1,h2,h3⟩;refine⟨h1,fun i hi=>?_⟩;cases i with
   |zero=>simp[Nm.kh];exact h2
   |succ j =>
    have hj:j<t.length:=by simpa using hi
    simp only[Nm.kh,List.getElem?_cons_succ,List.getElem?_eq_getElem hj];simp[h3 _ (List.getElem_mem hj)]
  ·rintro⟨h1,h2⟩;refine⟨h1,?_,fun y hy=>?_⟩
   ·have:=h2 0 (by simp);simpa [Nm.kh]using this
   ·obtain⟨j,hj,rfl⟩:=List.getElem_of_mem hy;have:=h2 (j+1) (by simpa using hj)
    simpa [Nm.kh,List.getElem?_eq_getElem hj]using this
theorem Nm.Ma(ls:List (List UInt8))(k:Nat)(h:k<ls.length)(hk:Nm.kh ls k=false):Nm.parts ls=false:=by
 rw[<- Bool.not_eq_true,Nm.mX];rintro⟨_,g⟩;rw[g k h]at hk;cases hk
theorem Nm.UC(ls:List (List UInt8))(h:∀ i,i<ls.length->Nm.kh ls i=true):Nm.parts ls=decide (ls.length<=8):=by
 rw[Bool.eq_iff_iff,Nm.mX];simp only[decide_eq_true_eq];exact⟨fun g=>g.1,fun g=>⟨g,h⟩⟩
theorem Nm.Mb(l:List UInt8)(h:¬ l=[46])(hl:60<l.length):Nm.valid l=false:=by
 simp only[Nm.valid,h,decide_false,Bool.false_or,Bool.and_eq_false_iff,decide_eq_false_iff_not];omega
theorem Nm.Mc(l:List UInt8)(h:¬ l=[46])(hl:l.length<=60):Nm.valid l=Nm.parts (Nm.split l):=by
 simp only[Nm.valid,h,decide_false,Bool.false_or,hl,decide_true,Bool.true_and]
set_option maxHeartbeats 800000 in
theorem UD(s:ByteArray)(w:World)(hs:s.size<=maxLen) :
  Calls Tryz.prog 24 #[.string s] w fun e w'=>e=.returned (.bool (Nm.valid (aw s)))/\Ext w w':=by
 unfold maxLen at hs;have hlen:=Nm.len s;by_cases hr:aw s=[46]
 ·have hb:(s.toList==[46])=true:=by rw[ByteArray.toList_eq];simp only[beq_iff_eq];exact hr
  have hv:Nm.valid (aw s)=true:=by simp[Nm.valid,hr]
  have HV:=Lib.hid hv;clear hv hr hlen
  go_enter Tryz.func24,Tryz.ntmps24
  go_wp2
  go_ret
  exact⟨by rw[HV.out];rfl,Ext.refl _⟩
 ·have hb:(s.toList==[46])=false:=by rw[ByteArray.toList_eq];simp only[beq_eq_false_iff_ne];exact hr
  by_cases vq:s.size<=60
  ·have HV:=Lib.hid (Nm.Mc (aw s) hr (by rw[hlen];exact vq));clear hr hlen
   go_enter Tryz.func24,Tryz.ntmps24
   go_wp2_with fail
   refine(L5 s _ (by omega)).mono ?_;rintro e w1 ⟨v,xs,rfl,gh,iU,hX⟩;obtain⟨a,cap,rfl,GA,CI,dH⟩:=iU.strs;have GB:=Lib.hid dH;have rz:=Lib.hid gh;have ug:(Nm.split (aw s)).length=xs.length:=by rw[<- gh];simp
   have CJ:=Lib.hid ug;unfold maxLen at CI;clear dH gh iU ug
   go_wp2_with fail
   go_loop [4] (fun i=>∃ k:Nat,k<=xs.length/\i=.int .i64 k/\Hid (∀ j,j<k->Nm.kh (Nm.split (aw s)) j=true)) (fun i=>xs.length-(intOf i).toNat)
   case atStart=>exact⟨0,Nat.zero_le _,rfl,(fun j hj=>by omega:∀ j,j<0->Nm.kh (Nm.split (aw s)) j=true)⟩
   case round =>
    obtain⟨k,hk,rfl,I⟩:=hrel;by_cases ai:k<xs.length
    ·obtain⟨x,vu⟩:∃ x,xs[k]?=some x:=⟨_,List.getElem?_eq_getElem ai⟩;obtain⟨b,off,rfl,hc,oR⟩:=GB.out k x vu;have aO:Nm.kh (Nm.split (aw s)) k=(Nm.label (aw x)||(decide (k=0)&&decide (aw x=[42]))):=by
      rw[<- rz.out];simp[Nm.kh,List.getElem?_map,vu]
     have CK:=Lib.hid aO;clear aO vu;have zX:(x.toList==[42])=decide (aw x=[42]):=by rw[ByteArray.toList_eq,Bool.eq_iff_iff];simp only[beq_iff_eq,decide_eq_true_eq]
     have Md:=Lib.hid zX;clear zX;cases mi:Nm.label (aw x)
     ·have sY:=Lib.hid mi;clear mi;by_cases h0:0<k
      ·have GC:Hid (Nm.kh (Nm.split (aw s)) k=false):=by
        have h1:=CK.out;rw[sY.out,show decide (k=0)=false by simp;omega]at h1;exact h1
       go_wp2_with fail
       refine(zU x _ oR).mono ?_;rintro e w' ⟨rfl,rfl⟩;rw[sY.out]
       go_wp2_with fail
       go_ret
       exact⟨by rw[HV.out,Nm.Ma _ k (by rw[CJ.out];exact ai) GC.out];rfl,hX⟩
      ·cases aT:(x.toList==[42])
       ·have GC:Hid (Nm.kh (Nm.split (aw s)) k=false):=by
         have h1:=CK.out;rw[sY.out,<- Md.out,aT,Bool.and_false]at h1;exact h1
        have aM:(x.toList != [42])=true:=by simp only[bne,aT];rfl
        go_wp2_with fail
        refine(zU x _ oR).mono ?_;rintro e w' ⟨rfl,rfl⟩;rw[sY.out]
        go_wp2_with fail
        go_ret
        exact⟨by rw[HV.out,Nm.Ma _ k (by rw[CJ.out];exact ai) GC.out];rfl,hX⟩
       ·have GD:Hid (Nm.kh (Nm.split (aw s)) k=true):=by
         have h1:=CK.out;rw[sY.out,<- Md.out,aT,show decide (k=0)=true by simp;omega]at h1;exact h1
        have aM:(x.toList != [42])=false:=by simp only[bne,aT];rfl
        go_wp2_with fail
        refine(zU x _ oR).mono ?_;rintro e w' ⟨rfl,rfl⟩;rw[sY.out]
        go_wp2_with fail
        go_round
        case rel=>exact⟨k+1,by omega,by go_num,Nm.zT I.out GD.out⟩
        case measure=>simp[intOf];omega
     ·have GD:Hid (Nm.kh (Nm.split (aw s)) k=true):=by
       have h1:=CK.out;rw[mi]at h1;exact h1
      have sY:=Lib.hid mi;clear mi
      go_wp2_with fail
      refine(zU x _ oR).mono ?_;rintro e w' ⟨rfl,rfl⟩;rw[sY.out]
      go_wp2_with fail
      go_round
      case rel=>exact⟨k+1,by omega,by go_num,Nm.zT I.out GD.out⟩
      case measure=>simp[intOf];omega
    ·obtain rfl:k=xs.length:=by omega
     go_wp2_with fail
     go_ret
     exact⟨mD (by rw[HV.out,Nm.UC _ (by rw[CJ.out];exact I.out),CJ.out,Bool.eq_iff_iff];simp;try omega),hX⟩
  ·have HV:=Lib.hid (Nm.Mb (aw s) hr (by rw[hlen];omega));clear hr hlen
   go_enter Tryz.func24,Tryz.ntmps24
   go_wp2_with fail
   go_ret
   exact⟨by rw[HV.out];rfl,Ext.refl _⟩
set_option maxHeartbeats 800000 in
theorem Me(s:ByteArray)(w:World)(hs:s.size<=1000) :
  Calls Tryz.prog 47 #[.string s] w (L4 (oQ Gw 1) (fun xs:List ByteArray=>xs.map aw=Nm.labels (aw s)) w):=by
 by_cases hr:aw s=[46]
 ·have hb:(s.toList==[46])=true:=by rw[ByteArray.toList_eq];simp only[beq_iff_eq];exact hr
  have HR:=Lib.hid hr;clear hr
  go_enter Tryz.func47,Tryz.ntmps47
  go_wp2
  go_ret
  exact⟨_,[],rfl,by simp[Nm.labels,HR.out],oQ.LY (World.ownsRow_nil _ 0 0 1) rfl (fun i x hi=>by simp at hi),Ext.refl _⟩
 ·have hb:(s.toList==[46])=false:=by rw[ByteArray.toList_eq];simp only[beq_eq_false_iff_ne];exact hr
  have HR:=Lib.hid hr;clear hr
  go_enter Tryz.func47,Tryz.ntmps47
  go_wp2_with fail
  refine(L5 s _ hs).mono ?_;rintro e w1 ⟨v,xs,rfl,gh,iU,hX⟩;have rz:=Lib.hid gh;clear gh
  go_wp2_with fail
  go_ret
  exact⟨v,xs,rfl,by show xs.map aw=_;rw[rz.out];simp[Nm.labels,HR.out],iU,hX⟩
set_option maxHeartbeats 800000 in
theorem UE(s:ByteArray)(w:World)(hs:s.size<=maxLen) :
  Calls Tryz.prog 186 #[.string s] w fun e w'=>e=.returned (.bool (Nm.ic (aw s)))/\w=w':=by
 unfold maxLen at hs;by_cases h0:0<s.size
 ·have hh:Nm.ic (aw s)=decide ((s[0].toNat:Int)=42):=by
   have e:aw s=s[0]::(aw s).tail:=by
    have hk:0<s.data.toList.length:=by rw[Nm.len];exact h0
    conv=>lhs;rw[show aw s=s.data.toList from rfl,<- List.drop_zero (l:=s.data.toList),List.drop_eq_getElem_cons hk]
    simp[aw];rfl
   rw[e];simp only[Nm.ic];rw[Bool.eq_iff_iff];simp only[beq_iff_eq,decide_eq_true_eq];constructor
   ·intro e;rw[e];rfl
   ·intro e;apply UInt8.toNat.inj;show _=42;omega
  have HH:=Lib.hid hh;clear hh
  go_enter Tryz.func186,Tryz.ntmps186
  go_wp2
  go_ret
  exact⟨mD (by rw[HH.out,Bool.eq_iff_iff];simp),rfl⟩
 ·have hh:Nm.ic (aw s)=false:=by
   have:aw s=[]:=List.eq_nil_of_length_eq_zero (by rw[Nm.len];omega);rw[this];rfl
  have HH:=Lib.hid hh;clear hh
  go_enter Tryz.func186,Tryz.ntmps186
  go_wp2
  go_ret
  exact⟨by rw[HH.out];rfl,rfl⟩
theorem Nm.GF(m l:List (List UInt8)):m <:+ l↔m.length<=l.length/\∀ i,i<m.length->l[l.length-m.length+i]?=m[i]? := by
 constructor
 ·rintro⟨p,rfl⟩;refine⟨by simp,fun i hi=>?_⟩;rw[show(p++m).length-m.length+i=p.length+i by simp,List.getElem?_append_right (by omega)]
  congr 1;omega
 ·rintro⟨h1,h2⟩;refine⟨l.take (l.length-m.length),?_⟩;conv=>rhs;rw[<- List.take_append_drop (l.length-m.length) l]
  congr 1
  apply List.ext_getElem?;intro i;rw[List.getElem?_drop];by_cases hi:i<m.length
  ·rw[h2 i hi]
  ·rw[List.getElem?_eq_none (by omega),List.getElem?_eq_none (by omega)]
set_option maxHeartbeats 800000 in
theorem UF(s z:ByteArray)(w:World)(hs:s.size<=1000)(hz:z.size<=1000) :
  Calls Tryz.prog 157 #[.string s,.string z] w fun e w'=>e=.returned (.bool (Nm.under (aw s) (aw z)))/\Ext w w':=by
 go_enter Tryz.func157,Tryz.ntmps157
 go_wp2_with fail
 refine(Me s _ hs).mono ?_;rintro e w1 ⟨v,xs,rfl,gh,iU,hX⟩;have rz:=Lib.hid gh;obtain⟨a,cap,rfl,GA,CI,dH⟩:=iU.strs
 go_wp2_with fail
 refine(Me z _ hz).mono ?_;rintro e w2 ⟨v2,zs,rfl,Mf,Mg,Mh⟩;have zY:=Lib.hid Mf;obtain⟨a2,adp,rfl,adq,UG,Mi⟩:=Mg.strs;have GB:=Lib.hid dH;have UH:=Lib.hid Mi;unfold maxLen at CI UG;clear dH Mi gh Mf iU Mg;have GG:=hX.trans Mh;by_cases hle:zs.length<=xs.length
 ·go_wp2_with fail
  go_loopw [7] (fun i wr=>∃ k:Nat,k<=zs.length/\i=.int .i64 k/\Ext w2 wr/\Hid (∀ j,j<k->xs[xs.length-zs.length+j]?=zs[j]?)) (fun i _=>zs.length-(intOf i).toNat)
  case atStart=>exact⟨0,Nat.zero_le _,rfl,Ext.refl _,(fun j hj=>by omega:∀ j,j<0->xs[xs.length-zs.length+j]?=zs[j]?)⟩
  case round =>
   obtain⟨k,hk,rfl,hx,I⟩:=hrel;by_cases ai:k<zs.length
   ·obtain⟨x,vu⟩:∃ x,xs[xs.length-zs.length+k]?=some x:=⟨_,List.getElem?_eq_getElem (by omega)⟩;obtain⟨y,GH⟩:∃ y,zs[k]?=some y:=⟨_,List.getElem?_eq_getElem ai⟩;obtain⟨b,off,rfl,hc,oR⟩:=GB.out _ x vu;obtain⟨b2,adr,rfl,CD,GI⟩:=UH.out _ y GH;have sA:=hx.keep (Mh.keep hc);have ads:=hx.keep CD;have i1:(0:Int)<=(xs.length:Int)-(zs.length:Int)+(k:Int):=by omega
    have i2:(xs.length:Int)-(zs.length:Int)+(k:Int)<(xs.length:Int):=by omega
    have i3:((xs.length:Int)-(zs.length:Int)+(k:Int)).toNat=xs.length-zs.length+k:=by omega
    have i4:IntKind.i64.wrap ((xs.length:Int)-(zs.length:Int))=(xs.length:Int)-(zs.length:Int):=IntWalk.i64_in _ (by omega);have i5:IntKind.i64.wrap ((xs.length:Int)-(zs.length:Int)+(k:Int))=(xs.length:Int)-(zs.length:Int)+(k:Int):=IntWalk.i64_in _ (by omega);have HX:=Lib.hid vu;have HY:=Lib.hid GH;clear vu GH hc CD;have i6:(0:Int)<=(k:Int):=by omega
    have i7:(k:Int)<(zs.length:Int):=by omega
    go_wp2_with fail
    go_quiet (fail)
    clear i1 i2 i3 i4 i5 i6 i7
    go_wp2_with fail
    ·have aM:¬ (aw x=aw y):=by
      have h:(!x.toList==y.toList)=true:=by assumption
      rw[zW]at h;simpa using h
     go_ret
     refine⟨mD ?_,GG.trans (hx.drewN _)⟩;symm;simp only[Nm.under,decide_eq_false_iff_not,Nm.GF];rintro⟨_,h⟩;have zZ:(Nm.labels (aw s)).length=xs.length:=by rw[<- rz.out];simp
     have CL:(Nm.labels (aw z)).length=zs.length:=by rw[<- zY.out];simp
     have:=h k (by rw[CL];exact ai);rw[zZ,CL,<- rz.out,<- zY.out,List.getElem?_map,List.getElem?_map,HX.out,HY.out]at this;simp at this;exact aM (by rw[show aw x=x.data.toList from rfl,this])
    ·have heq:aw x=aw y:=by
      have h:(!x.toList==y.toList)=false:=by assumption
      rw[zW]at h;simpa using h
     refine⟨⟨k+1,by omega,by go_num,hx.drewN _,(fun j hj=>?_:∀ j,j<k+1->xs[xs.length-zs.length+j]?=zs[j]?)⟩,by simp[intOf];omega⟩;by_cases e:j=k
     ·subst e;rw[HX.out,HY.out,zV heq]
     ·exact I.out j (by omega)
   ·obtain rfl:k=zs.length:=by omega
    go_wp2_with fail
    go_ret
    refine⟨mD ?_,GG.trans hx⟩;symm;simp only[Nm.under,decide_eq_true_eq,Nm.GF];have zZ:(Nm.labels (aw s)).length=xs.length:=by rw[<- rz.out];simp
    have CL:(Nm.labels (aw z)).length=zs.length:=by rw[<- zY.out];simp
    refine⟨by omega,fun i hi=>?_⟩;rw[zZ,CL,<- rz.out,<- zY.out,List.getElem?_map,List.getElem?_map,I.out i (by omega)]
 ·go_wp2_with fail
  go_ret
  refine⟨mD ?_,GG⟩;symm;simp only[Nm.under,decide_eq_false_iff_not,Nm.GF];rintro⟨h,_⟩;rw[<- rz.out,<- zY.out]at h;simp at h;omega
theorem Nm.UI(l:List UInt8)(h:Nm.valid l=true):l.length<=60:=by
 simp only[Nm.valid,Bool.or_eq_true,decide_eq_true_eq,Bool.and_eq_true]at h;rcases h with h|h
 ·rw[h];simp
 ·exact h.1
theorem Nm.xm(s:ByteArray)(h:Nm.valid (aw s)=true):s.size<=60:=by
 have:=Nm.UI _ h
 rwa [show(aw s).length=s.size from Nm.len s]at this
def Nm.mY(s z:List UInt8):Bool:=Nm.valid s&&Nm.valid z&&Nm.under s z
theorem Nm.toNat_eq(c d:UInt8):((c.toNat:Int)=(d.toNat:Int))↔c=d:=by
 constructor
 ·intro e;apply UInt8.toNat.inj;omega
 ·intro e;rw[e]
set_option maxHeartbeats 1000000 in
theorem GJ(s:ByteArray)(w:World) :
  Calls Tryz.prog 112 #[.string s] w fun e w'=>e=.returned (.bool (Nm.label (aw s)))/\w=w':=by
 have hlen:=Nm.len s;have pT:Hid ((aw s).length=s.size):=hlen;clear hlen;by_cases hz:1<=s.size/\s.size<=12
 ·obtain⟨z1,z2⟩:=hz;have p0:0<s.size:=by omega
  have p1:s.size-1<s.size:=by omega
  have e0:((s[0]'p0).toNat:Int)=45->false=Nm.label (aw s):=fun h=>by
   refine Nm.CG _ 0 (by rw[pT.out];omega) (fun g=>?_);have:=(Nm.CF s 0 (by omega)).1 g;omega
  have e1:((s[s.size-1]'p1).toNat:Int)=45->false=Nm.label (aw s):=fun h=>by
   refine Nm.CG _ (s.size-1) (by rw[pT.out];omega) (fun g=>?_);have:=(Nm.CF s (s.size-1) (by omega)).1 g;omega
  have E0:=Lib.hid e0;have E1:=Lib.hid e1;clear e0 e1;by_cases h0:((s[0]'p0).toNat:Int)=45
  ·have hb:(((s[0]'p0).toNat:Int)==45)=true:=by simp[h0]
   have F:=Lib.hid (E0.out h0);clear h0
   go_enter Tryz.func112,Tryz.ntmps112
   go_wp2
   go_ret
   exact⟨mD F.out,rfl⟩
  ·have hb:(((s[0]'p0).toNat:Int)==45)=false:=by simp[h0]
   by_cases h1:((s[s.size-1]'p1).toNat:Int)=45
   ·have iO:(((s[s.size-1]'p1).toNat:Int)==45)=true:=by simp[h1]
    have F:=Lib.hid (E1.out h1);clear h1 h0
    go_enter Tryz.func112,Tryz.ntmps112
    go_wp2
    go_ret
    exact⟨mD F.out,rfl⟩
   ·have iO:(((s[s.size-1]'p1).toNat:Int)==45)=false:=by simp[h1]
    have H0:=Lib.hid h0;have H1:=Lib.hid h1;clear h0 h1
    go_enter Tryz.func112,Tryz.ntmps112
    go_wp2
    go_loop [28] (fun i=>∃ k:Nat,k<=s.size/\i=.int .i64 k/\Hid (∀ j,j<k->Nm.nS (aw s) j=true)) (fun i=>s.size-(intOf i).toNat)
    case atStart=>exact⟨0,Nat.zero_le _,rfl,(fun j hj=>by omega:∀ j,j<0->Nm.nS (aw s) j=true)⟩
    case round =>
     obtain⟨k,hk,rfl,I⟩:=hrel;clear hb iO;by_cases ai:k<s.size
     ·have HL:Hid (Nm.nS (aw s) k=true↔_):=Nm.CF s k ai;have UJ:Hid (((s[k]'ai).toNat:Int)=45->0<k/\k+1<s.size):=fun h=>by
       refine⟨?_,?_⟩
       ·rcases Nat.eq_zero_or_pos k with rfl|h'
        ·exact absurd h H0.out
        ·exact h'
       ·rcases Nat.lt_or_ge (k+1) s.size with h'|h'
        ·exact h'
        ·obtain rfl:k=s.size-1:=by omega
         exact absurd h H1.out
      by_cases hc:((s[k]'ai).toNat:Int)=45
      ·have aM:(((s[k]'ai).toNat:Int) != 45)=false:=by simp[hc]
       have HC:=Lib.hid hc;clear hc
       go_wp2
       all_goals
        refine⟨⟨k+1,by omega,by go_num,?_⟩,by simp[intOf];omega⟩;have UK:=UJ.out HC.out;exact Nm.zT I.out (HL.out.2 (.inr (.inr ⟨HC.out,UK⟩)))
      ·have aM:(((s[k]'ai).toNat:Int) != 45)=true:=by simp[hc]
       have HC:=Lib.hid hc;clear hc
       go_wp2
       all_goals first
        |(exfalso;omega)
        |(refine⟨⟨k+1, by omega, by go_num, ?_⟩, by simp[intOf];omega⟩
          exact Nm.zT I.out (HL.out.2 (by omega)))
        |(have hc := HC.out
          go_ret
          exact⟨mD (Nm.CG (aw s) k (by rw[pT.out];exact ai) (fun h => absurd (HL.out.1 h) (by omega))), rfl⟩)
     ·obtain rfl:k=s.size:=by omega
      go_wp2
      go_ret
      exact⟨mD (by rw[Nm.LX (aw s) (by rw[pT.out];exact I.out),pT.out];simp;omega),rfl⟩
 ·have F:Hid (false=Nm.label (aw s)):=by
   show false=Nm.label (aw s);symm;simp only[Nm.label,decide_eq_false_iff_not];rintro⟨g1,g2,_⟩;rw[pT.out]at g1 g2;omega
  go_enter Tryz.func112,Tryz.ntmps112
  go_wp2
  all_goals first
   |(exfalso;omega)
   |(go_ret
     exact⟨mD F.out, rfl⟩)
def Nm.GK(s:ByteArray)(c:UInt8)(r:Int):Prop := -1<=r/\r<s.size/\(∀ (h:r.toNat<s.size),0<=r->s[r.toNat]'h=c)/\∀ (j:Nat) (h:j<s.size),r<j->s[j]'h≠c
def Mj(s:ByteArray)(c:UInt8)(w:World)(e:Ending)(w':World):Prop:=∃ r:Int,e=.returned (.int .i64 r)/\Nm.GK s c r/\w=w'
set_option maxHeartbeats 800000 in
theorem UL(s:ByteArray)(c:UInt8)(w:World)(hs:s.size<=maxLen) :
  Calls Tryz.prog 219 #[.string s,.int .u8 c.toNat] w (Mj s c w):=by
 unfold maxLen at hs
 go_enter Tryz.func219,Tryz.ntmps219
 go_wp2
 go_loop [5] (fun i=>∃ k:Int,-1<=k/\k<s.size/\i=.int .i64 k/\Hid (∀ (j:Nat) (h:j<s.size),k<j->s[j]'h≠c)) (fun i=>((intOf i)+1).toNat)
 case atStart=>exact⟨_,by omega,by omega,rfl,(fun j h hj=>by omega:∀ (j:Nat) (h:j<s.size),(s.size:Int)-1<j->s[j]'h≠c)⟩
 case round =>
  obtain⟨k,ea,nT,rfl,I⟩:=hrel;by_cases h0:0<=k
  ·obtain⟨m,rfl⟩:=Int.eq_ofNat_of_zero_le h0;have hm:m<s.size:=by omega
   by_cases hc:s[m]'hm=c
   ·have hb:(((s[m]'hm).toNat:Int)==(c.toNat:Int))=true:=by rw[hc];simp
    have HC:=Lib.hid hc;clear hc
    go_wp2
    go_ret
    exact⟨_,rfl,⟨by omega,by omega,fun _ _=>HC.out,I.out⟩,rfl⟩
   ·have hb:(((s[m]'hm).toNat:Int)==(c.toNat:Int))=false:=by simp only[beq_eq_false_iff_ne,ne_eq,Nm.toNat_eq];exact hc
    have HC:=Lib.hid hc;clear hc
    go_wp2
    go_round
    case rel =>
     refine⟨(m:Int)-1,by omega,by omega,rfl,(fun j h hj=>?_:∀ (j:Nat) (h:j<s.size),(m:Int)-1<j->s[j]'h≠c)⟩;by_cases e:j=m
     ·subst e;exact HC.out
     ·exact I.out j h (by omega)
    case measure=>simp[intOf]
  ·obtain rfl:k = -1:=by omega
   go_wp2
   go_ret
   exact⟨-1,rfl,⟨by omega,by omega,(fun _ h=>by omega),I.out⟩,rfl⟩
set_option maxHeartbeats 400000 in
theorem Mk(s:ByteArray)(c:UInt8)(w:World)(hs:s.size<=maxLen) :
  Calls Tryz.prog 171 #[.string s,.int .u8 c.toNat] w (Mj s c w):=by
 go_enter Tryz.func171,Tryz.ntmps171
 go_wp2_with fail
 refine(UL s c _ hs).mono ?_;rintro e w' ⟨r,rfl,hr,rfl⟩;have HR:=Lib.hid hr;clear hr
 go_wp2_with fail
 go_ret
 exact⟨r,rfl,HR.out,rfl⟩
theorem Nm.CM(s:ByteArray)(n:Nat):aw (s.extract 0 n)=(aw s).take n:=by
 show(s.extract 0 n).data.toList=_;rw[ByteArray.data_extract,Array.toList_extract,List.extract_eq_take_drop];simp
theorem Nm.CN(s:ByteArray)(n:Nat):aw (s.extract n s.size)=(aw s).drop n:=by
 show(s.extract n s.size).data.toList=_;rw[ByteArray.data_extract,Array.toList_extract,List.extract_eq_take_drop,List.take_of_length_le];rw[List.length_drop,Nm.len];exact Nat.le_refl _
set_option maxHeartbeats 400000 in
theorem UM(s p:ByteArray)(w:World)(hs:s.size<=maxLen)(eT:p.size<=maxLen) :
  Calls Tryz.prog 208 #[.string s,.string p] w fun e w'=>e=.returned (.bool (decide (aw p <:+ aw s)))/\w=w':=by
 unfold maxLen at hs eT;by_cases hp:p.size<=s.size
 ·have hh:((s.extract (s.size-p.size) s.size).toList==p.toList)=decide (aw p <:+ aw s):=by
   rw[zW,Nm.CN,Bool.eq_iff_iff];simp only[decide_eq_true_eq];rw[List.suffix_iff_eq_drop,show(aw p).length=p.size from Nm.len p,show(aw s).length=s.size from Nm.len s];exact eq_comm
  have HH:=Lib.hid hh;clear hh
  go_enter Tryz.func208,Tryz.ntmps208
  go_wp2
  go_ret
  exact⟨mD HH.out,rfl⟩
 ·have hh:decide (aw p <:+ aw s)=false:=by
   simp only[decide_eq_false_iff_not];intro h;have:=h.length_le;rw[show(aw p).length=p.size from Nm.len p,show(aw s).length=s.size from Nm.len s]at this;omega
  have HH:=Lib.hid hh;clear hh
  go_enter Tryz.func208,Tryz.ntmps208
  go_wp2
  go_ret
  exact⟨by rw[HH.out];rfl,rfl⟩
set_option maxHeartbeats 400000 in
theorem Ml(s p:ByteArray)(w:World)(hs:s.size<=maxLen)(eT:p.size<=maxLen) :
  Calls Tryz.prog 141 #[.string s,.string p] w fun e w'=>e=.returned (.bool (decide (aw p <:+ aw s)))/\w=w':=by
 generalize hd:decide (aw p <:+ aw s)=d;have HD:=Lib.hid hd;clear hd
 go_enter Tryz.func141,Tryz.ntmps141
 go_wp2_with fail
 refine(UM s p _ hs eT).mono ?_;rintro e w' ⟨rfl,rfl⟩;rw[HD.out]
 go_wp2_with fail
 go_ret
 exact⟨rfl,rfl⟩
end Go.Proofs.YtcmnpelmmekdkaaGreatDoor
end
section
namespace Go.Proofs.YtcmnpelmmekdkaaGreatDoor
open Go.RowKit Go.Shelf
variable {F:Fence} {n:Nat} {P:Program}
def Mm{α:Type}(F:Fence)(n:Nat)(P:Program)(g:Nat)(fb lb:Array Value)(xp:α->Array Value)(Kp:World->World->Prop)(S Sp:List α->Prop)(N:Nat)(w:World):Prop :=
 ∀ (l:Nat) (J Jx:List α->World->Prop) (W:World),Below w.heap.size w W->AbidesFrom W.heap.size J->AbidesFrom W.heap.size Jx ->
  (∀ pre x W1,J pre W1->pre.length<N->YieldAt F (n-1) P l (xp x) W1 fun e W' =>
   (e=.returned (.bool true)/\J (pre++[x]) W'/\Kp W1 W')\/(e=.returned (.bool false)/\Jx (pre++[x]) W')) ->
  J [] W ->
  CallsIn F n P g (fb ++ #[.func (.yield l) #[] #[]]++lb) W fun e W'=>(∃ v,e=.returned v)/\((∃ xs,S xs/\J xs W')\/(∃ pre,Sp pre/\Jx pre W'))
theorem GL{α:Type}{g:Operand}{ps:Array Tmp}{assign body:Code}{Q:Exit->Act->World->Prop}{a:Act}{w:World}
  (GM:F.round=none) (h1:1<=n) {gf:Nat} {fb lb:Array Value} (hg:a.eval g=.func (.func gf) fb lb) (UN:F.fn gf) (eg:∀ args w,(callFunc gf args).run P w=.ok (.enter gf args) w)
  {xp:α->Array Value} {Kp:World->World->Prop} {S Sp:List α->Prop} {N:Nat} {w0:World} (UO:Mm F (n-1) P gf fb lb xp Kp S Sp N w0)
  (Mn:∀ {A B C:World},Kp A B->Kp B C->Kp A C) (Mo:∀ (W:World) (l:Nat) (o o':Obj),w.heap.size<=l->W.heap[l]?=some o->o.isCells=false->o.isWalk=false->Kp W (W.putObj l o')) (iy:Below w0.heap.size w0 w) (eT:∀ x,(xp x).size=ps.size)
  (I:List α->World->Prop) (Ix:Code->List α->World->Prop) (hI:OwnFrom w.heap.size I) (GN:∀ c,OwnFrom w.heap.size (Ix c)) (h0:I [] w) (Mp : α->Act)
  (UP:∀ (l:Nat) (x:α) (W:World) (K:Act->World->Prop),K (Mp x) W ->
   assign.wpIn (F.inRound l) (n-1-1) P (Exit.then K (fun _ _ _=>False)) { tmps:=(ps.zip (xp x)).foldl (fun t (p,v)=>t.setIfInBounds p v) a.tmps,defers:=[] } W)
  (UQ:∀ (l:Nat) (pre:List α) (x:α) (W:World),I pre W->pre.length<N->body.wpIn (F.inRound l) (n-1-1) P (ownPostK Kp I Ix (pre++[x]) W) (Mp x) W)
  (UR:∀ (D:Nat) (xs:List α) (W:World),w.heap.size<=D->S xs->I xs W->W.heap[D]?=some (.deferred (some []))->Q .normal { a with defers:={ target := .collected D,args := #[] }::a.defers } W)
  (US:∀ (D:Nat) (c:Code) (pre:List α) (W:World),w.heap.size<=D->Sp pre->Ix c pre W->W.heap[D]?=some (.deferred (some []))->c.wpIn F n P Q { a with defers:={ target := .collected D,args := #[] }::a.defers } W) :
  (Code.rangeFunc g ps assign body).wpIn F n P Q a w:=by
 refine wpIn_rangeFunc fun fn yV=>?_;rw[GM]
 let GQ:LoopState->Option Code->Loop:=fun st pe=>{ state:=st,pending:=pe,fn,tmps:=a.tmps,params:=ps,assign,body,defers:=w.heap.size }
 have pV:∀ st pe,GQ st pe={ state:=st,pending:=pe,fn,tmps:=a.tmps,params:=ps,assign,body,defers:=w.heap.size }:=fun _ _=>rfl;generalize GQ=rc at pV;clear GQ;obtain⟨W1,xq⟩:∃ W1,(w.alloc (.deferred (some []))).alloc (.loop (rc .ready none))=W1:=⟨_,rfl⟩;have mZ:W1.heap[w.heap.size+1]?=some (.loop (rc .ready none)):=by
  have:=World.alloc_heap_new (w.alloc (.deferred (some []))) (.loop (rc .ready none));rw[World.size_alloc]at this;rw[<- xq];exact this
 have UT:W1.heap[w.heap.size]?=some (.deferred (some [])):=by
  rw[<- xq];exact(Below.heap_alloc _ _ _ (by simp)).trans (World.alloc_heap_new w _)
 have adt:W1.heap.size=w.heap.size+1+1:=by rw[<- xq];simp
 have UU:I [] W1:=by rw[<- xq];exact hI.alloc _ (hI.alloc _ h0)
 have CO:Below w0.heap.size w0 W1:=by
  rw[<- xq];exact iy.trans ((((Below.refl _ w).alloc (Nat.le_refl _) _).alloc (by simp) _).mono iy.size)
 refine⟨w.heap.size+1,[{ target := .collected w.heap.size,args := #[] }],W1,{ target := .fn (.func gf) lb,args:=fb ++ #[.func (.yield (w.heap.size+1)) #[] #[]] },W1,gf,
  fb ++ #[.func (.yield (w.heap.size+1)) #[] #[]]++lb,W1,?_,?_,?_,?_,fun _=>h1,?_⟩
 ·rw[<- xq,pV];exact run_enterLoop_outer _ _ _ _ _
 ·simp only[resolve,hg];simp[go_sem]
 ·intro f' wA;simp[Target.leads]at wA;subst wA;exact UN
 ·simp[invoke,go_sem,eg]
 have Mq:∀ {A:World} {row:Option Nat},(∀ r,row=some r->W1.heap.size<=r/\∃ o:Obj,A.heap[r]?=some o/\o.isWalk=true)->∀ r,row=some r->w.heap.size<=r/\∃ o:Obj,A.heap[r]?=some o/\o.isCells=false :=
  fun hr r e=>by obtain⟨hB,o,ho,hw⟩:=hr r e;exact⟨by omega,o,ho,Obj.not_cells_of_walk hw⟩
 refine(UO (w.heap.size+1)
  (fun pre W=>I pre W/\W.heap[w.heap.size+1]?=some (.loop (rc .ready none))/\W.heap[w.heap.size]?=some (.deferred (some [])))
  (fun pre W=>∃ c,Ix c pre W/\W.heap[w.heap.size+1]?=some (.loop (rc .done (some c)))/\W.heap[w.heap.size]?=some (.deferred (some [])))
  W1 CO
  (fun s A B row hs mT hr=>⟨hI s A B row hs.1 mT (Mq hr),(grownBy_keeps mT (fun r e=>(hr r e).2) hs.2.1 rfl).trans hs.2.1,(grownBy_keeps mT (fun r e=>(hr r e).2) hs.2.2 rfl).trans hs.2.2⟩)
  (fun s A B row ⟨c,hc,hl,hk⟩ mT hr=>⟨c,GN c s A B row hc mT (Mq hr),(grownBy_keeps mT (fun r e=>(hr r e).2) hl rfl).trans hl,(grownBy_keeps mT (fun r e=>(hr r e).2) hk rfl).trans hk⟩)
  ?round ⟨UU,mZ,UT⟩).mono ?behind
 case round =>
  rintro pre x W ⟨hi,hl,hk⟩ hlen;have ai:w.heap.size+1<W.heap.size:=(Array.getElem?_eq_some_iff.1 hl).1;have hy:=run_yield (P:=P) (args:=xp x) hl (by rw[pV];exact eT x);rw[pV]at hy;refine⟨fn,_,assign,body,hy,roundIn_of_wpIn yV (UP _ x W _ ⟨_,run_beginRound hl (by rw[pV]),?_⟩)⟩;generalize UW:({ rc .ready none with state := .busy }:Loop)=bz;have sk:(W.putObj (w.heap.size+1) (.loop bz)).heap[w.heap.size+1]?=some (.loop bz):=World.putObj_heap_same ai;have nT:(W.putObj (w.heap.size+1) (.loop bz)).heap[w.heap.size]?=some (.deferred (some [])):=(World.putObj_heap_other (by omega)).trans hk;have GR:Kp W (W.putObj (w.heap.size+1) (.loop bz)):=Mo _ _ _ _ (by omega) hl rfl rfl;refine wpIn_mono (UQ _ pre x _ (hI.putObj _ hi (by omega) hl rfl) hlen) ?_;have fin:∀ (jump:Option Code) (W3:World),KeepsOthers (W.putObj (w.heap.size+1) (.loop bz)) W3 ->
    (Instr.endRound (w.heap.size+1) jump).run P W3=.ok (.bool jump.isNone) (W3.putObj (w.heap.size+1) (.loop (rc (if jump.isNone then .ready else .done) jump))) /\
    W3.heap[w.heap.size+1]?=some (.loop bz) /\
    (W3.putObj (w.heap.size+1) (.loop (rc (if jump.isNone then .ready else .done) jump))).heap[w.heap.size+1]?=some (.loop (rc (if jump.isNone then .ready else .done) jump)) /\
    (W3.putObj (w.heap.size+1) (.loop (rc (if jump.isNone then .ready else .done) jump))).heap[w.heap.size]?=some (.deferred (some [])):=fun jump W3 xr=>by
   have rA:=xr.same _ _ sk rfl;have cW:=run_endRound (P:=P) jump (by rw[<- UW]at rA;exact rA);rw[pV]at cW ⊢;exact⟨cW,rA,World.putObj_heap_same (Array.getElem?_eq_some_iff.1 rA).1,(World.putObj_heap_other (by omega)).trans (xr.same _ _ nT rfl)⟩
  have leave:∀ (c:Code) (W3:World),KeepsOthers (W.putObj (w.heap.size+1) (.loop bz)) W3->Ix c (pre++[x]) W3->∃ v W4,(Instr.endRound (w.heap.size+1) (some c)).run P W3=.ok v W4 /\
    v=.bool false/\∃ c',Ix c' (pre++[x]) W4/\W4.heap[w.heap.size+1]?=some (.loop (rc .done (some c')))/\W4.heap[w.heap.size]?=some (.deferred (some [])):=fun c W3 xr GS=>by
   obtain⟨hr,rA,GU,GV⟩:=fin (some c) W3 xr;exact⟨_,_,hr,rfl,c,(GN c).putObj _ GS (by omega) rA rfl,GU,GV⟩
  rintro e a3 W3 hp;cases e with
  |normal =>
   obtain⟨xr,UX,GS⟩:=hp;obtain⟨hr,rA,GU,GV⟩:=fin none W3 xr;exact⟨_,_,hr,.inl ⟨rfl,⟨hI.putObj _ GS (by omega) rA rfl,GU,GV⟩,Mn (Mn GR UX) (Mo _ _ _ _ (by omega) rA rfl rfl)⟩⟩
  |ret=>obtain⟨v,W4,hr,rfl,c,h⟩:=leave .ret W3 hp.1 hp.2;exact⟨_,W4,hr,.inr ⟨rfl,c,h⟩⟩
  |exit id=>obtain⟨v,W4,hr,rfl,c,h⟩:=leave (.exit id) W3 hp.1 hp.2;exact⟨_,W4,hr,.inr ⟨rfl,c,h⟩⟩
  |goto t=>obtain⟨v,W4,hr,rfl,c,h⟩:=leave (.goto t) W3 hp.1 hp.2;exact⟨_,W4,hr,.inr ⟨rfl,c,h⟩⟩
  |panic ch=>exact hp.elim
  |outgrown=>exact hp.elim
 case behind =>
  rintro e W2 ⟨⟨v,rfl⟩,(⟨xs,hS,hi,hl,hk⟩|⟨pre,UY,c,hi,hl,hk⟩)⟩
  ·exact⟨none,_,by have:=run_endLoop (P:=P) hl (by rw[pV];simp);rw[pV]at this;exact this,UR _ xs _ (Nat.le_refl _) hS (hI.putObj _ hi (by omega) hl rfl) ((World.putObj_heap_other (by omega)).trans hk)⟩
  ·exact⟨some c,_,by have:=run_endLoop (P:=P) hl (by rw[pV];simp);rw[pV]at this;exact this,US _ c pre _ (Nat.le_refl _) UY ((GN c).putObj _ hi (by omega) hl rfl) ((World.putObj_heap_other (by omega)).trans hk)⟩
end Go.Proofs.YtcmnpelmmekdkaaGreatDoor
end
section
namespace Go.Proofs.YtcmnpelmmekdkaaGreatDoor
open Go.RowKit Go.Shelf
attribute [local go_sem] Oper.semAt_some
def bs(l:List UInt8):ByteArray:=⟨l.toArray⟩
theorem z6(l:List UInt8):aw (bs l)=l:=by simp[aw,bs]
theorem xu(s:ByteArray):bs (aw s)=s:=zV (z6 _)
def Nm.back(s:ByteArray):List ByteArray:=(Nm.labels (aw s)).reverse.map bs
def Mr:Value->Nat
 | .string s=>s.size
 |_=>0
def Nm.UZ(s:ByteArray)(xs:List ByteArray):Prop:=xs=Nm.back s
def Nm.U0(s:ByteArray)(xs:List ByteArray):Prop:=xs <+: Nm.back s
theorem Nm.Ms(r:ByteArray)(h:Nm.GK r 46 (-1)):46 ∉ aw r:=by
 intro hm;obtain⟨j,hj,e⟩:=List.getElem_of_mem hm;have dL:j<r.size:=by rw[show(aw r).length=r.size from Nm.len r]at hj;exact hj
 exact h.2.2.2 j dL (by omega) e
theorem Nm.Mt(r:ByteArray)(m:Nat)(h:Nm.GK r 46 m):Nm.split (aw r)=Nm.split ((aw r).take m)++[(aw r).drop (m+1)]:=by
 obtain⟨_,h2,h3,h4⟩:=h;have hm:m<r.size:=by omega
 have hl:(aw r).length=r.size:=Nm.len r;have e:(aw r)[m]'(by omega)=46:=h3 (by simpa using hm) (by omega);have hd:(aw r).drop m=46::(aw r).drop (m+1):=by rw[List.drop_eq_getElem_cons (by omega),e]
 have dR:46 ∉ (aw r).drop (m+1):=by
  intro ie;obtain⟨j,hj,e⟩:=List.getElem_of_mem ie;rw[List.getElem_drop]at e;rw[List.length_drop]at hj;exact h4 (m+1+j) (by omega) (by omega) e
 conv=>lhs;rw[<- List.take_append_drop m (aw r),hd]
 rw[Nm.CE,Nm.zS _ dR]
set_option maxRecDepth 100000 in
set_option maxHeartbeats 1000000 in
theorem GW(n:Nat)(hn:1<=n)(s:ByteArray)(hs:s.size<=maxLen)(w:World) :
  Mm Fence.wide n Tryz.prog 111 #[.string s] #[] (fun x:ByteArray => #[.string x]) (fun _ _=>True) (Nm.UZ s) (Nm.U0 s) (Nm.back s).length w:=by
 intro l J Jx W hB hJ hJx hY h0;unfold maxLen at hs;refine callsIn_of_wp Tryz.func111 rfl trivial ?_ rfl;simp only[Tryz.ntmps111,List.size_toArray,List.length_cons,List.length_nil,Nat.reduceAdd,Nat.reduceSub,Array.replicate_succ,Array.replicate_zero,List.push_toArray,List.append_toArray,List.nil_append,List.cons_append];by_cases hr:aw s=[46]
 ·have hb:(s.toList==[46])=true:=by rw[ByteArray.toList_eq];simp only[beq_iff_eq];exact hr
  have HB:Hid (Nm.back s=[]):=by show Nm.back s=[];simp[Nm.back,Nm.labels,hr]
  have HY:=Lib.hid hY;clear hY hr
  gi_wp2
  refine bodyPost_ret (results_none rfl _ _ _) rfl ?_;exact⟨⟨_,rfl⟩,.inl ⟨[],HB.out.symm,h0⟩⟩
 ·have hb:(s.toList==[46])=false:=by rw[ByteArray.toList_eq];simp only[beq_eq_false_iff_ne];exact hr
  have HB:Hid (Nm.back s=(Nm.split (aw s)).reverse.map bs):=by show Nm.back s=_;simp[Nm.back,Nm.labels,hr]
  have HY:=Lib.hid hY;clear hY hr
  gi_wp2_with fail
  gi_loopw [4] (fun v wr=>∃ (pre:List ByteArray) (r:ByteArray),v=.string r/\r.size<=s.size/\J pre wr/\Hid (pre++(Nm.split (aw r)).reverse.map bs=Nm.back s)) (fun v _=>Mr v)
  case atStart=>exact⟨[],s,rfl,Nat.le_refl _,h0,(by rw[HB.out];rfl:[]++(Nm.split (aw s)).reverse.map bs=Nm.back s)⟩
  case round =>
   obtain⟨pre,r,rfl,J9,Mu,I⟩:=hrel
   gi_wp2_with fail
   refine⟨trivial,?_⟩;refine(callsIn_wide.2 (Mk r 46 _ (by unfold maxLen;omega))).mono ?_;rintro e w' ⟨i,rfl,hi,rfl⟩;have HI:=Lib.hid hi;obtain⟨jd,lK,_,_⟩:=hi;by_cases GX:0<=i
   ·obtain⟨m,rfl⟩:=Int.eq_ofNat_of_zero_le GX;have gh:=Nm.Mt r m HI.out;have hlen:pre.length<(Nm.back s).length:=by
     rw[<- I.out,gh];simp
    obtain⟨fn,tmps,assign,body,hy,hR⟩:=HY.out pre (r.extract (m+1) r.size) wr Mu hlen;have HS:=Lib.hid gh;have HR:=Lib.hid hR;clear gh hR
    gi_wp2_with fail
    refine HR.out.mono ?_;rintro e W3 (⟨rfl,GY,_⟩|⟨rfl,GZ⟩)
    ·gi_wp2_with fail
     go_roundw
     case rel =>
      refine⟨pre++[r.extract (m+1) r.size],r.extract 0 m,rfl,by rw[ByteArray.size_extract];omega,GY,?_⟩;show pre++[r.extract (m+1) r.size]++(Nm.split (aw (r.extract 0 m))).reverse.map bs=Nm.back s;rw[<- I.out,HS.out,Nm.CM];simp only[List.reverse_append,List.reverse_cons,List.reverse_nil,List.nil_append,List.map_cons,List.append_assoc,List.cons_append];rw[<- Nm.CN,xu]
     case measure=>simp only[Mr,ByteArray.size_extract];omega
    ·gi_wp2_with fail
     refine bodyPost_ret (results_none rfl _ _ _) rfl ?_;refine⟨⟨_,rfl⟩,.inr ⟨pre++[r.extract (m+1) r.size],?_,GZ⟩⟩;refine⟨(Nm.split ((aw r).take m)).reverse.map bs,?_⟩;rw[<- I.out,HS.out];simp only[List.reverse_append,List.reverse_cons,List.reverse_nil,List.nil_append,List.map_cons,List.append_assoc,List.cons_append];rw[<- Nm.CN,xu]
   ·obtain rfl:i = -1:=by omega
    have gh:Nm.split (aw r)=[aw r]:=Nm.zS _ (Nm.Ms r HI.out);have hlen:pre.length<(Nm.back s).length:=by
     rw[<- I.out,gh];simp
    have hx:r.extract 0 r.size=r:=zV (by rw[Nm.CM,List.take_of_length_le (Nat.le_of_eq (Nm.len r))]);obtain⟨fn,tmps,assign,body,hy,hR⟩:=HY.out pre r wr Mu hlen;have HS:=Lib.hid gh;have HR:=Lib.hid hR;clear gh hR
    gi_wp2_with fail
    refine HR.out.mono ?_;rintro e W3 (⟨rfl,GY,_⟩|⟨rfl,GZ⟩)
    ·gi_wp2_with fail
     refine bodyPost_ret (results_none rfl _ _ _) rfl ?_;refine⟨⟨_,rfl⟩,.inl ⟨pre++[r],?_,GY⟩⟩;show pre++[r]=Nm.back s;rw[<- I.out,HS.out];simp[xu]
    ·gi_wp2_with fail
     refine bodyPost_ret (results_none rfl _ _ _) rfl ?_;refine⟨⟨_,rfl⟩,.inr ⟨pre++[r],?_,GZ⟩⟩;refine⟨[],?_⟩;rw[<- I.out,HS.out];simp[xu]
end Go.Proofs.YtcmnpelmmekdkaaGreatDoor
end
section
namespace Go.Proofs.YtcmnpelmmekdkaaGreatDoor
open Go.RowKit Go.Shelf
attribute [local go_sem] Oper.semAt_some
def Nm.Good(tot:Nat)(X:List ByteArray):Prop:=X.length<=8/\∀ i x,X[i]?=some x->Nm.label (aw x)=true\/(i+1=tot/\aw x=[42])
def Nm.star(X:List ByteArray):Bool:=match X.getLast? with
 |some x=>decide (aw x=[42])
 |none=>false
theorem Nm.Mv(s:ByteArray)(hr:¬ aw s=[46])(hs:s.size<=60):Nm.valid (aw s)=true↔Nm.Good (Nm.back s).length (Nm.back s):=by
 rw[Nm.Mc _ hr (by rw[show(aw s).length=s.size from Nm.len s];exact hs),Nm.mX];have hb:Nm.back s=(Nm.split (aw s)).reverse.map bs:=by simp[Nm.back,Nm.labels,hr]
 rw[hb];generalize Nm.split (aw s)=ls;simp only[Nm.Good,List.length_map,List.length_reverse];refine and_congr_right fun _=>?_;constructor
 ·intro h i x hx;rw[List.getElem?_map,Option.map_eq_some_iff]at hx;obtain⟨y,hy,rfl⟩:=hx;have hi:i<ls.length:=by simpa using(List.getElem?_eq_some_iff.1 hy).1
  rw[List.getElem?_reverse hi]at hy;have:=h (ls.length-1-i) (by omega);simp only[Nm.kh,hy,Bool.or_eq_true,Bool.and_eq_true,decide_eq_true_eq]at this;rw[z6];rcases this with h|⟨h1,h2⟩
  ·exact .inl h
  ·exact .inr ⟨by omega,h2⟩
 ·intro h i hi;obtain⟨y,hy⟩:∃ y,ls[i]?=some y:=⟨_,List.getElem?_eq_getElem hi⟩;have hx:(ls.reverse.map bs)[ls.length-1-i]?=some (bs y):=by
   rw[List.getElem?_map,List.getElem?_reverse (by omega),show ls.length-1-(ls.length-1-i)=i by omega,hy];rfl
  have:=h _ _ hx;rw[z6]at this;simp only[Nm.kh,hy,Bool.or_eq_true,Bool.and_eq_true,decide_eq_true_eq];rcases this with h|⟨h1,h2⟩
  ·exact .inl h
  ·exact .inr ⟨by omega,h2⟩
theorem Nm.U1:Nm.label [42]=false:=by decide
theorem Nm.U2{pre:List ByteArray}{x:ByteArray}(h:Nm.Good pre.length pre)(aT:Nm.star pre=false)(hc:pre.length+1<=8)(hx:Nm.label (aw x)=true\/aw x=[42]):Nm.Good (pre++[x]).length (pre++[x]):=by
 refine⟨by simpa using hc,fun i y hy=>?_⟩;by_cases hi:i<pre.length
 ·rw[List.getElem?_append_left hi]at hy;rcases h.2 i y hy with h1|⟨h1,h2⟩
  ·exact .inl h1
  ·exfalso;have:pre.getLast?=some y:=by rw[List.getLast?_eq_getElem?,<- hy];congr 1;omega
   simp[Nm.star,this,h2]at aT
 ·have cT:i=pre.length:=by
   have:=(List.getElem?_eq_some_iff.1 hy).1;simp at this;omega
  subst cT;rw[List.getElem?_append_right (Nat.le_refl _)]at hy;simp at hy;subst hy;rcases hx with h1|h1
  ·exact .inl h1
  ·exact .inr ⟨by simp,h1⟩
theorem Nm.U3{pre X:List ByteArray}{x:ByteArray}(hp:pre++[x] <+: X)(h:Nm.star pre=true\/8<pre.length+1\/(Nm.label (aw x)=false/\¬ aw x=[42])):¬ Nm.Good X.length X:=by
 rintro⟨g1,g2⟩;obtain⟨t,rfl⟩:=hp;rcases h with h|h|⟨h1,h2⟩
 ·unfold Nm.star at h;split at h
  ·rename_i y hy;rw[List.getLast?_eq_getElem?]at hy;have ai:=(List.getElem?_eq_some_iff.1 hy).1;have:=g2 (pre.length-1) y (by rw[List.append_assoc,List.getElem?_append_left ai];exact hy);rcases this with e|⟨e,_⟩
   ·rw[of_decide_eq_true h]at e;rw[Nm.U1]at e;cases e
   ·simp at e;omega
  ·cases h
 ·simp at g1;omega
 ·have:=g2 pre.length x (by simp);rcases this with e|⟨_,e⟩
  ·rw[h1]at e;cases e
  ·exact h2 e
theorem Nm.Mw(pre:List ByteArray)(x:ByteArray):Nm.star (pre++[x])=decide (aw x=[42]):=by simp[Nm.star]
def Nm.Inv(w:World)(pre:List ByteArray)(W:World):Prop :=
 Nm.Good pre.length pre/\W.cell? ⟨w.heap.size,0,none⟩=some (.bool false)/\W.frozen? ⟨w.heap.size,0,none⟩=false /\
 W.cell? ⟨w.heap.size+1,0,none⟩=some (.int .i64 pre.length)/\W.frozen? ⟨w.heap.size+1,0,none⟩=false /\
 W.cell? ⟨w.heap.size+1+1,0,none⟩=some (.bool (Nm.star pre))/\W.frozen? ⟨w.heap.size+1+1,0,none⟩=false
def Nm.Mx(s:ByteArray)(w:World)(c:Code)(pre:List ByteArray)(W:World):Prop :=
 c=.ret/\(pre <+: Nm.back s->¬ Nm.Good (Nm.back s).length (Nm.back s))/\W.cell? ⟨w.heap.size,0,none⟩=some (.bool false)
set_option maxRecDepth 100000 in
set_option maxHeartbeats 2000000 in
theorem U4(s:ByteArray)(w:World)(hs:s.size<=maxLen)(h:aw s=[46]\/60<s.size) :
  Calls Tryz.prog 72 #[.string s] w fun e w'=>e=.returned (.bool (Nm.valid (aw s)))/\Ext w w':=by
 unfold maxLen at hs;by_cases hr:aw s=[46]
 ·have hb:(s.toList==[46])=true:=by rw[ByteArray.toList_eq];simp only[beq_iff_eq];exact hr
  have HV:Hid (Nm.valid (aw s)=true):=by show Nm.valid (aw s)=true;simp[Nm.valid,hr]
  clear hr h;refine(callsIn_wide (n:=3)).1 ?_;refine callsIn_of_wp_marks Tryz.func72 rfl trivial ?_ rfl;simp only[Tryz.ntmps72,List.size_toArray,List.length_cons,List.length_nil,Nat.reduceAdd,Nat.reduceSub,Array.replicate_succ,Array.replicate_zero,List.push_toArray,List.append_toArray,List.nil_append,List.cons_append]
  gi_wp2
  exact⟨.bool true,by simp[results,Tryz.results72,go_sem],by rw[HV.out],(Ext.refl _).alloc _⟩
 ·have hb:(s.toList==[46])=false:=by rw[ByteArray.toList_eq];simp only[beq_eq_false_iff_ne];exact hr
  have vq:60<s.size:=by rcases h with h|h;exact absurd h hr;exact h
  have HV:Hid (Nm.valid (aw s)=false):=Nm.Mb (aw s) hr (by rw[show(aw s).length=s.size from Nm.len s];exact vq);clear hr h;refine(callsIn_wide (n:=3)).1 ?_;refine callsIn_of_wp_marks Tryz.func72 rfl trivial ?_ rfl;simp only[Tryz.ntmps72,List.size_toArray,List.length_cons,List.length_nil,Nat.reduceAdd,Nat.reduceSub,Array.replicate_succ,Array.replicate_zero,List.push_toArray,List.append_toArray,List.nil_append,List.cons_append]
  gi_wp2
  exact⟨.bool false,by simp[results,Tryz.results72,go_sem],by rw[HV.out],(Ext.refl _).alloc _⟩
theorem s4{W:World}{b1 b2:Nat}{u:Value}(h:b1≠b2):(W.setCell ⟨b1,0,none⟩ u).cell? ⟨b2,0,none⟩=W.cell? ⟨b2,0,none⟩ :=
 World.cell?_of_block (Below.heap_setCell W ⟨b1,0,none⟩ u b2 (fun e=>h e.symm))
theorem lE{W:World}{a:Addr}{u v:Value}(h:W.cell? a=some v):(W.setCell a u).cell? a=some u:=World.cell?_setCell_same' _ _ _ (by rw[h];rfl)
theorem s5{W W':World}{a:Addr}{v:Value}{row:Option Nat}(h:W.cell? a=some v)(hg:W.grownBy W' row)(hr:∀ r,row=some r->∃ o:Obj,W.heap[r]?=some o/\o.isCells=false):W'.cell? a=some v:=Go.cell_kept h hg hr
set_option maxRecDepth 100000 in
set_option maxHeartbeats 4000000 in
theorem U5(s:ByteArray)(w:World)(hr:¬ aw s=[46])(vq:s.size<=60) :
  Calls Tryz.prog 72 #[.string s] w fun e w'=>e=.returned (.bool (Nm.valid (aw s)))/\Ext w w':=by
 have hb:(s.toList==[46])=false:=by rw[ByteArray.toList_eq];simp only[beq_eq_false_iff_ne];exact hr
 have HV:=Lib.hid (Nm.Mv s hr vq);have ai:decide (60<(s.size:Int))=false:=by simp;omega
 clear hr;refine(callsIn_wide (n:=5)).1 ?_;refine callsIn_of_wp_marks Tryz.func72 rfl trivial ?_ rfl;simp only[Tryz.ntmps72,List.size_toArray,List.length_cons,List.length_nil,Nat.reduceAdd,Nat.reduceSub,Array.replicate_succ,Array.replicate_zero,List.push_toArray,List.append_toArray,List.nil_append,List.cons_append]
 gi_wp2
 have c0:(((w.alloc (.cells #[.bool false] 4)).alloc (.cells #[.int .i64 0] 3)).alloc (.cells #[.bool false] 4)).cell? ⟨w.heap.size,0,none⟩=some (.bool false):=cell_kept _ (cell_kept _ (Ep _ _ _));have c1:(((w.alloc (.cells #[.bool false] 4)).alloc (.cells #[.int .i64 0] 3)).alloc (.cells #[.bool false] 4)).cell? ⟨w.heap.size+1,0,none⟩=some (.int .i64 0):=cell_kept _ (by have:=Ep (w.alloc (.cells #[.bool false] 4)) (.int .i64 0) 3;rwa [World.size_alloc]at this);have c2:(((w.alloc (.cells #[.bool false] 4)).alloc (.cells #[.int .i64 0] 3)).alloc (.cells #[.bool false] 4)).cell? ⟨w.heap.size+1+1,0,none⟩=some (.bool false):=by have:=Ep ((w.alloc (.cells #[.bool false] 4)).alloc (.cells #[.int .i64 0] 3)) (.bool false) 4;rwa [World.size_alloc,World.size_alloc]at this
 have f0:∀ b,w.heap.size<=b->(((w.alloc (.cells #[.bool false] 4)).alloc (.cells #[.int .i64 0] 3)).alloc (.cells #[.bool false] 4)).frozen? ⟨b,0,none⟩=false:=fun b hb=>by
  rw[frozen?_alloc_cells,frozen?_alloc_cells,frozen?_alloc_cells];exact RR w b 0 hb
 have jF:Below w.heap.size w (((w.alloc (.cells #[.bool false] 4)).alloc (.cells #[.int .i64 0] 3)).alloc (.cells #[.bool false] 4)):=((((Ext.refl w).alloc _).alloc _).alloc _).below;refine GL rfl (by omega) (gf:=111) (fb := #[.string s]) (lb := #[]) rfl trivial (enters_of Tryz.func111 (by kernel_rfl) rfl)
  (GW 4 (by omega) s (by unfold maxLen;omega) _) (fun _ _=>trivial) (fun _ _ _ _ _ _ _ _=>trivial) (Below.refl _ _) (fun _=>rfl)
  (fun pre W=>Nm.Inv w pre W/\Below w.heap.size w W)
  (fun c pre W=>Nm.Mx s w c pre W/\Below w.heap.size w W)
  (OwnFrom.and (Own.from (fun pre A B row hs hg hr=>⟨hs.1,s5 hs.2.1 hg hr,(frozen_kept hs.2.1 hg hr).trans hs.2.2.1,s5 hs.2.2.2.1 hg hr,(frozen_kept hs.2.2.2.1 hg hr).trans hs.2.2.2.2.1,s5 hs.2.2.2.2.2.1 hg hr,(frozen_kept hs.2.2.2.2.2.1 hg hr).trans hs.2.2.2.2.2.2⟩) _) (ownFrom_below (Nat.le_refl _) (by simp;omega)))
  (fun c=>OwnFrom.and (Own.from (fun pre A B row hs hg hr=>⟨hs.1,hs.2.1,s5 hs.2.2 hg hr⟩) _) (ownFrom_below (Nat.le_refl _) (by simp;omega)))
  ⟨⟨⟨by simp,by simp⟩,c0,f0 _ (by omega),c1,f0 _ (by omega),c2,f0 _ (by omega)⟩,jF⟩
  (fun x=>{ tmps := #[.string s,undef,.pointer (some ⟨w.heap.size,0,none⟩),.pointer (some ⟨w.heap.size+1,0,none⟩),.pointer (some ⟨w.heap.size+1+1,0,none⟩),.string x,.string s,.bool false,.string s,.int .i64 s.size,.bool false,.string s,.func (.func 111) #[.string s] #[],.string x,undef,undef,undef,undef,undef,undef,undef,undef,undef,undef,undef,undef,undef,undef,undef,undef],defers:=[] }) ?assign ?body ?done ?stop
 case assign =>
  intro l x W K hK
  gi_wp2
  exact hK
 case body =>
  rintro l pre x W ⟨⟨hG,k0,g0,k1,g1,k2,g2⟩,hB⟩ hlen;have HG:=Lib.hid hG;have h8:=hG.1;clear hG c0 c1 c2 f0 jF;have zX:(x.toList==[42])=decide (aw x=[42]):=by rw[ByteArray.toList_eq,Bool.eq_iff_iff];simp only[beq_iff_eq,decide_eq_true_eq]
  have My:=Lib.hid zX;clear zX;clear hlen;have leave:∀ W',KeepsOthers W W'->W'.cell? ⟨w.heap.size,0,none⟩=some (.bool false)->Below w.heap.size w W' ->
    (Nm.star pre=true\/8<pre.length+1\/(Nm.label (aw x)=false/\¬ aw x=[42]))->KeepsOthers W W'/\Nm.Mx s w .ret (pre++[x]) W'/\Below w.heap.size w W' :=
   fun W' h1 h2 h3 h4=>⟨h1,⟨rfl,fun hp=>Nm.U3 hp h4,h2⟩,h3⟩
  have LV:=Lib.hid leave;have Mz:∀ (st:Bool),Nm.star (pre++[x])=st->Nm.star pre=false->pre.length+1<=8->(Nm.label (aw x)=true\/aw x=[42]) ->
    Nm.Inv w (pre++[x]) ((W.setCell ⟨w.heap.size+1,0,none⟩ (.int .i64 ((pre.length:Int)+1))).setCell ⟨w.heap.size+1+1,0,none⟩ (.bool st)) /\
    Below w.heap.size w ((W.setCell ⟨w.heap.size+1,0,none⟩ (.int .i64 ((pre.length:Int)+1))).setCell ⟨w.heap.size+1+1,0,none⟩ (.bool st)) :=
   fun st h1 h2 h3 h4=>⟨⟨Nm.U2 HG.out h2 h3 h4,
    by rw[s4 (by omega),s4 (by omega)];exact k0,by rw[World.frozen?_setCell,World.frozen?_setCell];exact g0,
    by rw[s4 (by omega),lE k1];simp,by rw[World.frozen?_setCell,World.frozen?_setCell];exact g1,
    by rw[lE (v := .bool (Nm.star pre)) (by rw[s4 (by omega)];exact k2),h1],by rw[World.frozen?_setCell,World.frozen?_setCell];exact g2⟩,
    (hB.setCell (p:=⟨w.heap.size+1,0,none⟩) (by simp) _).setCell (p:=⟨w.heap.size+1+1,0,none⟩) (by simp;omega) _⟩
  have GO:=Lib.hid Mz;clear leave Mz;cases aT:Nm.star pre
  ·have vv:=Lib.hid aT;rw[aT]at k2;clear aT;by_cases hc:pre.length+1<=8
   ·cases hx:(x.toList==[42])
    ·have HX:Hid (¬ aw x=[42]):=by have:=My.out;rw[hx]at this;exact of_decide_eq_false this.symm
     cases hl:Nm.label (aw x)
     ·have HL:=Lib.hid hl;clear hl
      gi_wp2_with (refine⟨trivial,?_⟩;gi_at_call 112;refine(CallsIn.inRound l (callsIn_wide.2 (GJ x _))).mono ?_;rintro e w' ⟨rfl,rfl⟩;rw[HL.out])
      refine LV.out _ (((KeepsOthers.setCell _ _ _).trans (KeepsOthers.setCell _ _ _)).trans (KeepsOthers.setCell _ _ _)) ?_ ?_ (.inr (.inr ⟨HL.out,HX.out⟩))
      ·exact lE (v := .bool false) (by rw[s4 (by omega),s4 (by omega)];exact k0)
      ·exact((hB.setCell (p:=⟨w.heap.size+1,0,none⟩) (by simp) _).setCell (p:=⟨w.heap.size+1+1,0,none⟩) (by simp;omega) _).setCell (p:=⟨w.heap.size,0,none⟩) (Nat.le_refl _) _
     ·have HL:=Lib.hid hl;clear hl
      gi_wp2_with (refine⟨trivial,?_⟩;gi_at_call 112;refine(CallsIn.inRound l (callsIn_wide.2 (GJ x _))).mono ?_;rintro e w' ⟨rfl,rfl⟩;rw[HL.out])
      exact⟨(KeepsOthers.setCell _ _ _).trans (KeepsOthers.setCell _ _ _),trivial,GO.out false (by rw[Nm.Mw];exact decide_eq_false HX.out) vv.out hc (.inl HL.out)⟩
    ·have HX:Hid (aw x=[42]):=by show aw x=[42];have:=My.out;rw[hx]at this;exact of_decide_eq_true this.symm
     gi_wp2_with fail
     refine⟨trivial,?_⟩
     gi_wp2_with fail
     exact⟨(KeepsOthers.setCell _ _ _).trans (KeepsOthers.setCell _ _ _),trivial,GO.out true (by rw[Nm.Mw];exact decide_eq_true HX.out) vv.out hc (.inr HX.out)⟩
   ·gi_wp2_with fail
    refine LV.out _ ((KeepsOthers.setCell _ _ _).trans (KeepsOthers.setCell _ _ _)) ?_ ?_ (.inr (.inl (by omega)))
    ·exact lE (v := .bool false) (by rw[s4 (by omega)];exact k0)
    ·exact(hB.setCell (p:=⟨w.heap.size+1,0,none⟩) (by simp) _).setCell (p:=⟨w.heap.size,0,none⟩) (Nat.le_refl _) _
  ·have vv:=Lib.hid aT;rw[aT]at k2;clear aT
   gi_wp2_with fail
   refine LV.out _ ((KeepsOthers.setCell _ _ _).trans (KeepsOthers.setCell _ _ _)) ?_ ?_ (.inl vv.out)
   ·exact lE (v := .bool false) (by rw[s4 (by omega)];exact k0)
   ·exact(hB.setCell (p:=⟨w.heap.size+1,0,none⟩) (by simp) _).setCell (p:=⟨w.heap.size,0,none⟩) (Nat.le_refl _) _
 case done =>
  rintro D ys W hD oS ⟨⟨hG,k0,g0,k1,g1,k2,g2⟩,hB⟩ hK;have HY:Hid (ys=Nm.back s):=oS;have HG:=Lib.hid hG;clear oS hG c0 c1 c2 f0 jF
  gi_wp2
  have s6:=(KeepsOthers.setCell W ⟨w.heap.size,0,none⟩ (.bool true)).same D _ hK rfl;refine⟨by simp,.inl ⟨_,_,rfl,run_takeDeferred s6,?_⟩⟩;have G0:=s5 (World.cell?_setCell_same' W ⟨w.heap.size,0,none⟩ (.bool true) (by rw[k0];rfl)) (grownBy_putObj' _ D (.deferred none)) (fun r e=>by cases e;exact⟨_,s6,rfl⟩);have hv:Nm.valid (aw s)=true:=by rw[HV.out,<- HY.out];exact HG.out
  refine⟨.bool true,?_,by rw[hv],Ext.sj ((hB.setCell (p:=⟨w.heap.size,0,none⟩) (Nat.le_refl _) _).trans (belowK_b (w:=w) (Nat.le_refl _) _ D _ _ (by simp at hD;omega) s6 rfl rfl))⟩;simp[results,Tryz.results72,go_sem,G0]
 case stop =>
  rintro D c pre W hD nU ⟨⟨rfl,iq,U6⟩,hB⟩ hK;have HP:Hid (pre <+: Nm.back s):=nU;have U7:=Lib.hid iq;clear nU iq c0 c1 c2 f0 jF
  gi_wp2
  refine⟨by simp,.inl ⟨_,_,rfl,run_takeDeferred hK,?_⟩⟩;have G0:=s5 U6 (grownBy_putObj' _ D (.deferred none)) (fun r e=>by cases e;exact⟨_,hK,rfl⟩);have hv:Nm.valid (aw s)=false:=by rw[<- Bool.not_eq_true,HV.out];exact U7.out HP.out
  refine⟨.bool false,?_,by rw[hv],Ext.sj (hB.trans (belowK_b (w:=w) (Nat.le_refl _) W D _ _ (by simp at hD;omega) hK rfl rfl))⟩;simp[results,Tryz.results72,go_sem,G0]
theorem iG(s:ByteArray)(w:World)(hs:s.size<=maxLen) :
  Calls Tryz.prog 72 #[.string s] w fun e w'=>e=.returned (.bool (Nm.valid (aw s)))/\Ext w w':=by
 by_cases h:aw s=[46]\/60<s.size
 ·exact U4 s w hs h
 ·rw[not_or]at h;exact U5 s w h.1 (by omega)
set_option maxHeartbeats 400000 in
theorem U8(s:ByteArray)(w:World)(hs:s.size<=maxLen) :
  Calls Tryz.prog 32 #[.string s] w fun e w'=>e=.returned (.bool (Nm.valid (aw s)))/\Ext w w':=by
 go_enter Tryz.func32,Tryz.ntmps32
 go_wp2_with fail
 refine(iG s _ hs).mono ?_;rintro e w1 ⟨rfl,hx⟩
 go_wp2_with fail
 go_ret
 exact⟨rfl,hx⟩
end Go.Proofs.YtcmnpelmmekdkaaGreatDoor
end
section
namespace Go.Proofs.YtcmnpelmmekdkaaGreatDoor
open Go.RowKit
theorem Nm.U9(l:List UInt8)(h:Nm.valid l=true):1<=l.length:=by
 cases l with
 |nil=>exfalso;revert h;decide
 |cons c r=>simp
theorem Nm.U'(a z:List UInt8):Nm.split z <:+ Nm.split (a++46::z):=⟨Nm.split a,(Nm.CE a z).symm⟩
theorem Nm.Va(p q:List (List UInt8))(hp:p≠[])(hq:q≠[]):Nm.glue (p++q)=Nm.glue p++46::Nm.glue q:=by
 induction p with
 |nil=>exact absurd rfl hp
 |cons x t ih =>
  cases t with
  |nil =>
   cases q with
   |nil=>exact absurd rfl hq
   |cons y u=>rfl
  |cons y u =>
   have:=ih (by simp);simp only[List.cons_append,Nm.glue]at this ⊢;rw[this];simp
theorem Nm.s7(s z:List UInt8)(hs:s≠[46])(hz:z≠[46]):Nm.under s z=true↔s=z\/∃ a,s=a++46::z:=by
 simp only[Nm.under,decide_eq_true_eq,Nm.labels,hs,hz,if_false];constructor
 ·rintro⟨p,hp⟩;cases p with
  |nil=>left;exact(Nm.LW _ _ hp).symm
  |cons x t =>
   right;refine⟨Nm.glue (x::t),?_⟩;rw[<- Nm.vp s,<- hp,Nm.Va _ _ (by simp) (Nm.nR z),Nm.vp]
 ·rintro(rfl|⟨a,rfl⟩)
  ·exact List.suffix_refl _
  ·exact Nm.U' a z
theorem Nm.Vb(s z:List UInt8)(hs:Nm.valid s=true)(hz:Nm.valid z=true)(h1:s≠z)(h2:z≠[46]) :
  Nm.under s z=true↔z.length<s.length/\z <:+ s/\s[s.length-z.length-1]?=some 46:=by
 by_cases hr:s=[46]
 ·subst hr;have jT:=Nm.U9 z hz;constructor
  ·intro h;simp only[Nm.under,decide_eq_true_eq,Nm.labels,h2,if_false,if_true]at h;exact absurd (List.eq_nil_of_suffix_nil h) (Nm.nR z)
  ·rintro⟨h,_⟩;exfalso;simp only[List.length_singleton]at h;omega
 ·rw[Nm.s7 s z hr h2];constructor
  ·rintro(h|⟨a,rfl⟩)
   ·exact absurd h h1
   ·refine⟨by simp;omega,⟨a++[46],by simp⟩,?_⟩;rw[show(a++46::z).length-z.length-1=a.length by simp;omega];simp
  ·rintro⟨h,⟨p,rfl⟩,h3⟩;right;have hp:p≠[]:=by rintro rfl;simp at h
   rw[show(p++z).length-z.length-1=p.length-1 by simp,List.getElem?_append_left (by have:=List.length_pos_iff.2 hp;omega)]at h3;refine⟨p.dropLast,?_⟩;have e:p.getLast hp=46:=by
    rw[List.getLast_eq_getElem];exact(List.getElem?_eq_some_iff.1 h3).2
   conv=>lhs;rw[<- List.dropLast_concat_getLast hp,e]
   simp
theorem Nm.Vc(s z:List UInt8)(h:s=z\/z=[46]):Nm.under s z=true:=by
 simp only[Nm.under,decide_eq_true_eq];rcases h with rfl|rfl
 ·exact List.suffix_refl _
 ·simp[Nm.labels]
set_option maxHeartbeats 800000 in
theorem Vd(s z:ByteArray)(w:World)(hs:s.size<=maxLen)(hz:z.size<=maxLen) :
  Calls Tryz.prog 91 #[.string s,.string z] w fun e w'=>e=.returned (.tuple #[.bool (Nm.mY (aw s) (aw z)),.int .i64 (if Nm.valid (aw s)&&Nm.valid (aw z)then 0 else 11)])/\Ext w w':=by
 cases h1:Nm.valid (aw s)
 ·have H1:=Lib.hid h1;clear h1
  go_enter Tryz.func91,Tryz.ntmps91
  go_wp2_with fail
  refine(iG s _ hs).mono ?_;rintro e w1 ⟨rfl,dM⟩;rw[H1.out]
  go_wp2_with fail
  go_ret2
  exact⟨by simp[Nm.mY,H1.out],dM⟩
 ·cases h2:Nm.valid (aw z)
  ·have H1:=Lib.hid h1;have H2:=Lib.hid h2;clear h1 h2
   go_enter Tryz.func91,Tryz.ntmps91
   go_wp2_with fail
   refine(iG s _ hs).mono ?_;rintro e w1 ⟨rfl,dM⟩;rw[H1.out]
   go_wp2_with fail
   refine(iG z _ hz).mono ?_;rintro e w2 ⟨rfl,dK⟩;rw[H2.out]
   go_wp2_with fail
   go_ret2
   exact⟨by simp[Nm.mY,H1.out,H2.out],dM.trans dK⟩
  ·have H1:=Lib.hid h1;have H2:=Lib.hid h2;have zs:=Nm.xm s h1;have zz:=Nm.xm z h2;clear h1 h2;by_cases hb:aw s=aw z\/aw z=[46]
   ·have HU:=Lib.hid (Nm.Vc _ _ hb);have e1:(s.toList==z.toList)=decide (aw s=aw z):=zW s z;have e2:(z.toList==[46])=decide (aw z=[46]):=by rw[ByteArray.toList_eq,Bool.eq_iff_iff];simp only[beq_iff_eq,decide_eq_true_eq]
    by_cases bT:aw s=aw z
    ·rw[decide_eq_true bT]at e1;clear e2 hb bT
     go_enter Tryz.func91,Tryz.ntmps91
     go_wp2_with fail
     refine(iG s _ hs).mono ?_;rintro e w1 ⟨rfl,dM⟩;rw[H1.out]
     go_wp2_with fail
     refine(iG z _ hz).mono ?_;rintro e w2 ⟨rfl,dK⟩;rw[H2.out]
     go_wp2_with fail
     go_ret2
     exact⟨by simp[Nm.mY,H1.out,H2.out,HU.out],dM.trans dK⟩
    ·have MA:aw z=[46]:=by rcases hb with h|h;exact absurd h bT;exact h
     rw[decide_eq_false bT]at e1;rw[decide_eq_true MA]at e2;clear hb bT MA
     go_enter Tryz.func91,Tryz.ntmps91
     go_wp2_with fail
     refine(iG s _ hs).mono ?_;rintro e w1 ⟨rfl,dM⟩;rw[H1.out]
     go_wp2_with fail
     refine(iG z _ hz).mono ?_;rintro e w2 ⟨rfl,dK⟩;rw[H2.out]
     go_wp2_with fail
     go_ret2
     exact⟨by simp[Nm.mY,H1.out,H2.out,HU.out],dM.trans dK⟩
   ·rw[not_or]at hb;have HU:=Lib.hid (Nm.Vb _ _ H1.out H2.out hb.1 hb.2);have ls:(aw s).length=s.size:=Nm.len s;have lz:(aw z).length=z.size:=Nm.len z;rw[ls,lz]at HU;have e1:(s.toList==z.toList)=false:=by rw[zW];exact decide_eq_false hb.1
    have e2:(z.toList==[46])=false:=by rw[ByteArray.toList_eq,beq_eq_false_iff_ne];exact hb.2
    clear hb ls lz;by_cases hl:z.size<s.size
    ·cases xv:decide (aw z <:+ aw s)
     ·have HF:Hid (Nm.under (aw s) (aw z)=false):=by
       rw[<- Bool.not_eq_true,HU.out];rintro⟨_,h,_⟩;exact of_decide_eq_false xv h
      have HS:=Lib.hid xv;clear xv
      go_enter Tryz.func91,Tryz.ntmps91
      go_wp2_with fail
      refine(iG s _ hs).mono ?_;rintro e w1 ⟨rfl,dM⟩;rw[H1.out]
      go_wp2_with fail
      refine(iG z _ hz).mono ?_;rintro e w2 ⟨rfl,dK⟩;rw[H2.out]
      go_wp2_with fail
      refine(Ml s z _ hs hz).mono ?_;rintro e w' ⟨rfl,rfl⟩;rw[HS.out]
      go_wp2_with fail
      go_ret2
      exact⟨by simp[Nm.mY,H1.out,H2.out,HF.out],dM.trans dK⟩
     ·have hk:s.size-z.size-1<s.size:=by omega
      have HT:Hid (Nm.under (aw s) (aw z)=decide (((s[s.size-z.size-1]'hk).toNat:Int)=46)):=by
       show Nm.under (aw s) (aw z)=decide _;rw[Bool.eq_iff_iff,HU.out];have e:(aw s)[s.size-z.size-1]?=some (s[s.size-z.size-1]'hk):=by rw[List.getElem?_eq_getElem (by simpa [aw]using hk)];rfl
       rw[e];simp only[Option.some.injEq,decide_eq_true_eq];constructor
       ·rintro⟨_,_,h⟩;rw[h];rfl
       ·intro h;exact⟨hl,of_decide_eq_true xv,(Nm.toNat_eq _ 46).1 h⟩
      have HS:=Lib.hid xv;clear xv;have j1:((s.size:Int)-(z.size:Int)-1).toNat=s.size-z.size-1:=by omega
      have j2:(0:Int)<=(s.size:Int)-(z.size:Int)-1:=by omega
      have j3:(s.size:Int)-(z.size:Int)-1<(s.size:Int):=by omega
      go_enter Tryz.func91,Tryz.ntmps91
      go_wp2_with fail
      refine(iG s _ hs).mono ?_;rintro e w1 ⟨rfl,dM⟩;rw[H1.out]
      go_wp2_with fail
      refine(iG z _ hz).mono ?_;rintro e w2 ⟨rfl,dK⟩;rw[H2.out]
      go_wp2_with fail
      refine(Ml s z _ hs hz).mono ?_;rintro e w' ⟨rfl,rfl⟩;rw[HS.out]
      go_wp2_with fail
      go_ret2
      refine⟨?_,dM.trans dK⟩;simp only[Nm.mY,H1.out,H2.out,HT.out,Bool.true_and]
      congr 4
      try simp
    ·have HF:Hid (Nm.under (aw s) (aw z)=false):=by
      rw[<- Bool.not_eq_true,HU.out];rintro⟨h,_,_⟩;omega
     go_enter Tryz.func91,Tryz.ntmps91
     go_wp2_with fail
     refine(iG s _ hs).mono ?_;rintro e w1 ⟨rfl,dM⟩;rw[H1.out]
     go_wp2_with fail
     refine(iG z _ hz).mono ?_;rintro e w2 ⟨rfl,dK⟩;rw[H2.out]
     go_wp2_with fail
     go_ret2
     exact⟨by simp[Nm.mY,H1.out,H2.out,HF.out],dM.trans dK⟩
end Go.Proofs.YtcmnpelmmekdkaaGreatDoor
end
section
namespace Go.Proofs.YtcmnpelmmekdkaaGreatDoor
open Go.RowKit Go.Shelf
attribute [local go_sem] Oper.semAt_some
set_option maxHeartbeats 1000000 in
set_option maxRecDepth 100000 in
theorem Wx(a b:ByteArray)(w:World) :
  Calls Tryz.prog 183 #[.string a,.string b] w fun e w'=>e=.returned (.int .i64 (Lib.compareBytes (aw a) (aw b)))/\w'=w:=by
 go_enter Tryz.func183,Tryz.ntmps183
 go_wp2
 rw[run_callFunc_extern Tryz.func225 (by kernel_rfl) (by kernel_rfl) (by kernel_rfl) (e:=Extern.BytealgCompare.compare) (by kernel_rfl),Lib.run_compareString];simp only[Result.andThen];rw[Oper.upon_value]
 go_wp2
 go_ret
 exact⟨rfl,rfl⟩
set_option maxHeartbeats 1000000 in
theorem Wy(a b:ByteArray)(w:World) :
  Calls Tryz.prog 117 #[.string a,.string b] w fun e w'=>e=.returned (.int .i64 (Lib.compareBytes (aw a) (aw b)))/\w'=w:=by
 go_enter Tryz.func117,Tryz.ntmps117
 go_wp2_with (go_at_call 183;refine(Wx _ _ _).mono ?_;rintro e w' ⟨rfl,rfl⟩)
 go_ret
 exact⟨rfl,rfl⟩
def Wz(rest:ByteArray)(bm br:Nat)(w:World)(e:Ending)(w':World):Prop :=
 ∃ x,e=.returned (.tuple #[.string x,.bool true])/\((Nm.split (aw rest)=[aw x]/\w'=w.setCell ⟨bm,0,none⟩ (.bool false)) \/
  ∃ r',r'.size<=rest.size/\Nm.split (aw rest)=Nm.split (aw r')++[aw x]/\w'=w.setCell ⟨br,0,none⟩ (.string r'))
set_option maxHeartbeats 1000000 in
set_option maxRecDepth 100000 in
theorem WA(bm br:Nat)(w:World)(h1:w.cell? ⟨bm,0,none⟩=some (.bool false)) :
  Calls Tryz.prog 182 #[.pointer (some ⟨bm,0,none⟩),.pointer (some ⟨br,0,none⟩)] w fun e w'=>e=.returned (.tuple #[.string ⟨#[]⟩,.bool false])/\w'=w:=by
 go_enter Tryz.func182,Tryz.ntmps182
 go_wp2
 go_ret2
 exact⟨rfl,rfl⟩
set_option maxHeartbeats 1000000 in
set_option maxRecDepth 100000 in
theorem WB(rest:ByteArray)(bm br:Nat)(w:World)(hs:rest.size<=60)(h1:w.cell? ⟨bm,0,none⟩=some (.bool true))(f1:w.frozen? ⟨bm,0,none⟩=false)(h2:w.cell? ⟨br,0,none⟩=some (.string rest))(f2:w.frozen? ⟨br,0,none⟩=false) :
  Calls Tryz.prog 182 #[.pointer (some ⟨bm,0,none⟩),.pointer (some ⟨br,0,none⟩)] w (Wz rest bm br w):=by
 go_enter Tryz.func182,Tryz.ntmps182
 go_wp2_with fail
 refine(Mk rest 46 _ (by unfold maxLen;omega)).mono ?_;rintro e w' ⟨i,rfl,hi,rfl⟩;have HI:=Lib.hid hi;obtain⟨jd,lK,_,_⟩:=hi;by_cases GX:0<=i
 ·obtain⟨m,rfl⟩:=Int.eq_ofNat_of_zero_le GX;have HS:=Lib.hid (Nm.Mt rest m HI.out)
  go_wp2_with fail
  go_ret2
  refine⟨rest.extract (m+1) rest.size,rfl,.inr ⟨rest.extract 0 m,by rw[ByteArray.size_extract];omega,?_,rfl⟩⟩;rw[HS.out,Nm.CM,Nm.CN]
 ·obtain rfl:i = -1:=by omega
  have HS:=Lib.hid (Nm.zS _ (Nm.Ms rest HI.out));have hx:rest.extract 0 rest.size=rest:=zV (by rw[Nm.CM,List.take_of_length_le (Nat.le_of_eq (Nm.len rest))])
  go_wp2_with fail
  go_ret2
  exact⟨rest,rfl,.inl ⟨HS.out,rfl⟩⟩
theorem Hi(s:ByteArray):s.toList=aw s:=by rw[ByteArray.toList_eq]
structure WC(s:ByteArray)(w w':World):Prop where
 ext:Ext w w'
 size:w'.heap.size=w.heap.size+2
 rest:Boxed w' w.heap.size 9 (.string s)
 more:Boxed w' (w.heap.size+1) 4 (.bool (!s.toList==[46]))
set_option maxHeartbeats 1000000 in
set_option maxRecDepth 100000 in
theorem WD(s:ByteArray)(w:World) :
  Calls Tryz.prog 116 #[.string s] w fun e w'=>e=.returned (.func (.func 182) #[] #[.pointer (some ⟨w.heap.size+1,0,none⟩),.pointer (some ⟨w.heap.size,0,none⟩)])/\WC s w w':=by
 go_enter Tryz.func116,Tryz.ntmps116
 go_wp2
 go_ret
 refine⟨rfl,((Ext.refl w).alloc _).alloc _,by simp,(Boxed.new w _ _).alloc _,?_⟩;have:=Boxed.new (w.alloc (.cells #[.string s] 9)) 4 (.bool (!s.toList==[46]))
 rwa [World.size_alloc]at this
def kU:List ByteArray->List ByteArray->Int
 |[],[]=>0
 |[],_::_ => -1
 |_::_,[]=>1
 |x::l,y::m=>if Lib.compareBytes (aw x) (aw y)≠0 then Lib.compareBytes (aw x) (aw y)else kU l m
theorem Ny:∀ (l:List UInt8),Lib.compareBytes l l=0
 |[]=>rfl
 |c::l=>by
  have:¬ c<c:=by simp
  simp[Lib.compareBytes,this,Ny l]
theorem C7:∀ (p l m:List ByteArray),kU (p++l) (p++m)=kU l m
 |[],_,_=>rfl
 |x::p,l,m=>by
  simp only[List.cons_append,kU,Ny,ne_eq,not_true_eq_false,if_false];exact C7 p l m
theorem WE{A B pre:List ByteArray}{x:ByteArray}(h1:pre=B.take pre.length)(h2:B.drop pre.length=[])(h3:pre++[x] <+: A):kU A B=1:=by
 obtain⟨r,rfl⟩:=h3;have hB:B=pre:=by
  have:=List.take_append_drop pre.length B;rw[h2,<- h1,List.append_nil]at this;exact this.symm
 rw[hB];have:=C7 pre (x::r) [];rw[List.append_nil]at this;rw[List.append_assoc,List.singleton_append,this];rfl
theorem WG{A B pre m:List ByteArray}{x y:ByteArray}(h1:pre=B.take pre.length)(h2:B.drop pre.length=y::m)(h3:pre++[x] <+: A)(h4:Lib.compareBytes (aw x) (aw y)≠0):kU A B=Lib.compareBytes (aw x) (aw y):=by
 obtain⟨r,rfl⟩:=h3;have hB:B=pre++y::m:=by
  have:=List.take_append_drop pre.length B;rw[h2,<- h1]at this;exact this.symm
 have hc:=C7 pre (x::r) (y::m);rw[<- hB]at hc;rw[List.append_assoc,List.singleton_append,hc,kU,if_pos h4]
theorem WH{A B:List ByteArray}(h1:A=B.take A.length)(h2:A≠B):kU A B = -1:=by
 cases hd:B.drop A.length with
 |nil =>
  have:=List.take_append_drop A.length B;rw[hd,<- h1,List.append_nil]at this;exact absurd this h2
 |cons y m =>
  have hB:B=A++y::m:=by
   have:=List.take_append_drop A.length B;rw[hd,<- h1]at this;exact this.symm
  have hc:=C7 A [] (y::m);rw[List.append_nil,<- hB]at hc;rw[hc];rfl
theorem Nz:∀ {l m:List UInt8},Lib.compareBytes l m=0->l=m
 |[],[],_=>rfl
 |[],_::_,h=>by simp[Lib.compareBytes]at h
 |_::_,[],h=>by simp[Lib.compareBytes]at h
 |c::l,d::m,h=>by
  simp only[Lib.compareBytes]at h;split at h
  ·simp at h
  ·split at h
   ·simp at h
   ·rename_i h1 h2;have:c=d:=UInt8.le_antisymm (UInt8.not_lt.1 h2) (UInt8.not_lt.1 h1);rw[this,Nz h]
theorem drop_cons{α:Type}{B m:List α}{n:Nat}{y:α}(h:B.drop n=y::m):B.take (n+1)=B.take n++[y]/\B.drop (n+1)=m:=by
 have h1:B[n]?=some y:=by
  have:=congrArg (fun l=>l[0]?) h
  simpa using this
 have h2:B.drop (n+1)=m:=by
  have:=congrArg List.tail h
  simpa using this
 exact⟨by rw[List.take_add_one,h1];rfl,h2⟩
def Hj(rest:ByteArray)(more:Bool)(R:List ByteArray):Prop:=(more=false/\R=[])\/(more=true/\R=(Nm.split (aw rest)).reverse.map bs)
theorem Boxed.still{W W':World}{row:Option Nat}{B:Nat}{t:TypeId}{v:Value}(h:Boxed W B t v)(hg:W.grownBy W' row)(hr:∀ r,row=some r->∃ o:Obj,W.heap[r]?=some o/\o.isCells=false):Boxed W' B t v :=
 h.kept hg fun e=>by
  obtain⟨o,ho,hc⟩:=hr B e.symm;rw[show W.heap[B]?=_ from h]at ho;cases ho;cases hc
theorem An{a b:List UInt8}(h:Nm.labels a=Nm.labels b):a=b:=by
 unfold Nm.labels at h;split at h
 ·split at h
  ·simp_all
  ·exact absurd h.symm (Nm.nR _)
 ·split at h
  ·exact absurd h (Nm.nR _)
  ·exact Nm.LW _ _ h
theorem WI{a b:ByteArray}(h:Nm.back a=Nm.back b):aw a=aw b:=by
 unfold Nm.back at h;have h1:=congrArg (List.map aw) h;simp only[List.map_map]at h1;have e:∀ l:List (List UInt8),l.map (aw ∘ bs)=l:=fun l=>by
  induction l with
  |nil=>rfl
  |cons x l ih=>rw[List.map_cons,ih];simp[z6]
 rw[e,e]at h1;exact An (List.reverse_inj.1 h1)
set_option maxRecDepth 100000 in
set_option maxHeartbeats 4000000 in
theorem WJ(a b:ByteArray)(w:World)(ha:Nm.valid (aw a)=true)(hb:Nm.valid (aw b)=true)(aM:¬ aw a=aw b) :
  Calls Tryz.prog 76 #[.string a,.string b] w fun e w'=>e=.returned (.tuple #[.int .i64 (kU (Nm.back a) (Nm.back b)),.int .i64 0])/\Ext w w':=by
 have WK:=Lib.hid (fun h=>aM (WI h));have WL:=Nm.xm a ha;have WM:=Nm.xm b hb;have yZ:(a.toList==b.toList)=false:=by rw[Hi,Hi];simp only[beq_eq_false_iff_ne];exact aM
 have HA:=Lib.hid ha;have HB:=Lib.hid hb;clear ha hb aM;refine(callsIn_wide (n:=5)).1 ?_;refine callsIn_of_wp_marks Tryz.func76 rfl trivial ?_ rfl;simp only[Tryz.ntmps76,List.size_toArray,List.length_cons,List.length_nil,Nat.reduceAdd,Nat.reduceSub,Array.replicate_succ,Array.replicate_zero,List.push_toArray,List.append_toArray,List.nil_append,List.cons_append]
 gi_wp2_with fail
 refine⟨trivial,?_⟩;refine(callsIn_wide.2 (iG a _ (by unfold maxLen;omega))).mono ?_;rintro e w1 ⟨rfl,dM⟩;rw[HA.out]
 gi_wp2_with fail
 refine⟨trivial,?_⟩;refine(callsIn_wide.2 (iG b _ (by unfold maxLen;omega))).mono ?_;rintro e w2 ⟨rfl,dK⟩;rw[HB.out]
 gi_wp2_with fail
 refine⟨trivial,?_⟩;refine(callsIn_wide.2 (WD b _)).mono ?_;rintro e w3 ⟨rfl,hp⟩
 gi_wp2_with fail
 have Hk:Ext w w2:=((((Ext.refl w).alloc _).alloc _).trans dM).trans dK;have b1:Boxed w2 w.heap.size 3 (.int .i64 0):=by
  have h0:Boxed ((w.alloc (.cells #[.int .i64 0] 3)).alloc (.cells #[.int .i64 0] 33)) w.heap.size 3 (.int .i64 0):=(Boxed.new w _ _).alloc _;have h1:Boxed w1 w.heap.size 3 (.int .i64 0):=(dM.block _ h0.lt).trans h0;exact(dK.block _ h1.lt).trans h1
 have b2:Boxed w2 (w.heap.size+1) 33 (.int .i64 0):=by
  have h0:Boxed ((w.alloc (.cells #[.int .i64 0] 3)).alloc (.cells #[.int .i64 0] 33)) (w.heap.size+1) 33 (.int .i64 0):=by
   have:=Boxed.new (w.alloc (.cells #[.int .i64 0] 3)) 33 (.int .i64 0)
   rwa [World.size_alloc]at this
  have h1:Boxed w1 (w.heap.size+1) 33 (.int .i64 0):=(dM.block _ h0.lt).trans h0;exact(dK.block _ h1.lt).trans h1
 have ady:=b1.lt;have jK:=b2.lt;obtain⟨oX,Ao⟩:∃ oX:Value,oX=.func (.func 182) #[] #[.pointer (some ⟨w2.heap.size+1,0,none⟩),.pointer (some ⟨w2.heap.size,0,none⟩)]:=⟨_,rfl⟩;have b3:=(show Boxed w3 w.heap.size 3 (.int .i64 0)from (hp.ext.block _ b1.lt).trans b1).alloc (.cells #[oX] 182);have b4:=(show Boxed w3 (w.heap.size+1) 33 (.int .i64 0)from (hp.ext.block _ b2.lt).trans b2).alloc (.cells #[oX] 182);have b5:=hp.rest.alloc (.cells #[oX] 182);have b6:=hp.more.alloc (.cells #[oX] 182);have b7:=Boxed.new w3 182 oX;have Hl:=hp.size;have jF:Below w.heap.size w (w3.alloc (.cells #[oX] 182)):=((Hk.trans hp.ext).alloc _).below;rw[<- Ao];generalize NA:w3.alloc (.cells #[oX] 182)=W0 at *;have WN:W0.heap.size=w2.heap.size+3:=by rw[<- NA,World.size_alloc,Hl]
 have xH:Nm.back b=if aw b=[46]then[]else(Nm.split (aw b)).reverse.map bs:=by
  unfold Nm.back Nm.labels;split<;>simp
 have C8:Hj b (!b.toList==[46]) (Nm.back b):=by
  rw[xH,Hi];by_cases hr:aw b=[46]
  ·left;simp[hr]
  ·right;simp[hr]
 clear NA hp dM dK b1 b2;rw[Hl]at b7 ⊢;clear Hl;refine GL rfl (by omega) (gf:=111) (fb := #[.string a]) (lb := #[]) rfl trivial (enters_of Tryz.func111 (by kernel_rfl) rfl)
  (GW 4 (by omega) a (by unfold maxLen;omega) _) (fun _ _=>trivial) (fun _ _ _ _ _ _ _ _=>trivial) (Below.refl _ _) (fun _=>rfl)
  (fun pre W=>(∃ (rest:ByteArray) (more:Bool),Boxed W w.heap.size 3 (.int .i64 0)/\Boxed W (w.heap.size+1) 33 (.int .i64 0)/\Boxed W (w2.heap.size+2) 182 oX/\Boxed W (w2.heap.size+1) 4 (.bool more)/\Boxed W w2.heap.size 9 (.string rest)/\rest.size<=60/\Hj rest more ((Nm.back b).drop pre.length)/\pre=(Nm.back b).take pre.length)/\Below w.heap.size w W)
  (fun c pre W=>(c=.ret/\∃ v,Boxed W w.heap.size 3 (.int .i64 v)/\Boxed W (w.heap.size+1) 33 (.int .i64 0)/\(pre <+: Nm.back a->v=kU (Nm.back a) (Nm.back b)))/\Below w.heap.size w W)
  (OwnFrom.and (Own.from (fun pre A B row hs hg hr=>by
   obtain⟨rest,more,g1,g2,g3,g4,g5,g6⟩:=hs
   exact⟨rest,more,Boxed.still g1 hg hr,Boxed.still g2 hg hr,Boxed.still g3 hg hr,Boxed.still g4 hg hr,Boxed.still g5 hg hr,g6⟩) _) (ownFrom_below (Nat.le_refl _) (by omega)))
  (fun c=>OwnFrom.and (Own.from (fun pre A B row hs hg hr=>by
   obtain⟨e,v,g1,g2,g3⟩:=hs
   exact⟨e,v,Boxed.still g1 hg hr,Boxed.still g2 hg hr,g3⟩) _) (ownFrom_below (Nat.le_refl _) (by omega)))
  ⟨⟨b,_,b3,b4,b7,b6,b5,WM,C8,by simp⟩,jF⟩
  (fun x=>{ tmps := #[.string a,.string b,undef,undef,.pointer (some ⟨w.heap.size,0,none⟩),.pointer (some ⟨w.heap.size+1,0,none⟩),.string a,.string b,   .pointer (some ⟨w2.heap.size+2,0,none⟩),.func (.func 111) #[.string a] #[],.string x,undef,undef,undef,.string a,.string b,.string a,.bool true,.bool false,.bool false,.string b,.bool true,.bool false,.bool false,.string a,.string b,.bool false,.string b,oX,.string a,.func (.func 111) #[.string a] #[],.func (.func 111) #[.string a] #[],.string x,undef,undef,undef,undef,undef,undef,undef,undef,undef,undef,undef,undef,undef],defers:=[] }) ?assign ?body ?done ?stop
 case assign =>
  intro l x W K hK;subst Ao
  gi_wp2
  exact hK
 case body =>
  rintro l pre x W ⟨⟨rest,more,g1,g2,g3,g4,g5,g6,aT,nU⟩,hB⟩ hlen;have vv:=Lib.hid aT;have Ap:=Lib.hid nU;clear aT nU hlen b3 b4 b5 b6 b7 jF C8 xH WN;subst Ao;have n12:w.heap.size≠w.heap.size+1:=by omega
  have leave:∀ (W1:World) (v:Int),KeepsOthers W W1->Boxed W1 w.heap.size 3 (.int .i64 0)->Boxed W1 (w.heap.size+1) 33 (.int .i64 0)->Below w.heap.size w W1->(pre++[x] <+: Nm.back a->v=kU (Nm.back a) (Nm.back b)) ->
    KeepsOthers W ((W1.setCell ⟨w.heap.size,0,none⟩ (.int .i64 v)).setCell ⟨w.heap.size+1,0,none⟩ (.int .i64 0))/\(∃ u,Boxed ((W1.setCell ⟨w.heap.size,0,none⟩ (.int .i64 v)).setCell ⟨w.heap.size+1,0,none⟩ (.int .i64 0)) w.heap.size 3 (.int .i64 u)/\Boxed ((W1.setCell ⟨w.heap.size,0,none⟩ (.int .i64 v)).setCell ⟨w.heap.size+1,0,none⟩ (.int .i64 0)) (w.heap.size+1) 33 (.int .i64 0)/\(pre++[x] <+: Nm.back a->u=kU (Nm.back a) (Nm.back b)))/\Below w.heap.size w ((W1.setCell ⟨w.heap.size,0,none⟩ (.int .i64 v)).setCell ⟨w.heap.size+1,0,none⟩ (.int .i64 0)) :=
   fun W1 v h0 h1 h2 h3 h4=>⟨(h0.trans (KeepsOthers.setCell _ _ _)).trans (KeepsOthers.setCell _ _ _),⟨v,(h1.set (.int .i64 v)).other n12 _,(h2.other n12.symm (.int .i64 v)).set (.int .i64 0),h4⟩,
    (h3.setCell (p:=⟨w.heap.size,0,none⟩) (by simp) _).setCell (p:=⟨w.heap.size+1,0,none⟩) (by simp) _⟩
  have LV:=Lib.hid leave;clear leave;have k1:=g1.cell;have xI:=g1.frozen;have k2:=g2.cell;have xJ:=g2.frozen;have k3:=g3.cell;have k4:=g4.cell;have NB:=g4.frozen;have k5:=g5.cell;have NC:=g5.frozen;cases more
  ·gi_wp2_with fail
   refine⟨trivial,?_⟩;refine(CallsIn.inRound l (callsIn_wide.2 (WA _ _ _ k4))).mono ?_;rintro e W1 ⟨rfl,rfl⟩
   gi_wp2_with fail
   obtain⟨q1,q2,q3⟩:=LV.out _ 1 (KeepsOthers.refl _) g1 g2 hB fun hp=>by
    rcases vv.out with⟨-,hd⟩|⟨h,-⟩
    ·exact(WE Ap.out hd hp).symm
    ·cases h
   exact⟨q1,⟨rfl,q2⟩,q3⟩
  ·have hd:(Nm.back b).drop pre.length=(Nm.split (aw rest)).reverse.map bs:=by
    rcases vv.out with⟨h,-⟩|⟨-,h⟩
    ·cases h
    ·exact h
   have HD:=Lib.hid hd;clear hd
   gi_wp2_with fail
   refine⟨trivial,?_⟩;refine(CallsIn.inRound l (callsIn_wide.2 (WB rest _ _ _ g6 k4 NB k5 NC))).mono ?_;rintro e W1 ⟨y,rfl,hy⟩;clear k1 xI k2 xJ k3 k4 NB k5 NC;have fin:∃ (Aq:ByteArray) (C9:Bool) (m:List ByteArray),(Nm.back b).drop pre.length=y::m/\Hj Aq C9 m/\Aq.size<=60/\Boxed W1 w.heap.size 3 (.int .i64 0)/\Boxed W1 (w.heap.size+1) 33 (.int .i64 0)/\Boxed W1 (w2.heap.size+2) 182 (.func (.func 182) #[] #[.pointer (some ⟨w2.heap.size+1,0,none⟩),.pointer (some ⟨w2.heap.size,0,none⟩)])/\Boxed W1 (w2.heap.size+1) 4 (.bool C9)/\Boxed W1 w2.heap.size 9 (.string Aq)/\KeepsOthers W W1/\Below w.heap.size w W1:=by
    rcases hy with⟨hs,rfl⟩|⟨r',ND,Ar,rfl⟩
    ·refine⟨rest,false,[],?_,.inl ⟨rfl,rfl⟩,g6,g1.other (by omega) _,g2.other (by omega) _,g3.other (by omega) _,g4.set _,g5.other (by omega) _,KeepsOthers.setCell _ _ _,hB.setCell (p:=⟨w2.heap.size+1,0,none⟩) (by simp;omega) _⟩;rw[HD.out,hs];simp[xu]
    ·refine⟨r',true,(Nm.split (aw r')).reverse.map bs,?_,.inr ⟨rfl,rfl⟩,by omega,g1.other (by omega) _,g2.other (by omega) _,g3.other (by omega) _,g4.other (by omega) _,g5.set _,KeepsOthers.setCell _ _ _,hB.setCell (p:=⟨w2.heap.size,0,none⟩) (by simp;omega) _⟩;rw[HD.out,Ar];simp[xu]
   clear hy g1 g2 g3 g4 g5;obtain⟨Aq,C9,m,hm,eT,WO,g1,g2,g3,g4,g5,NF,CO⟩:=fin;have HM:=Lib.hid hm;have WQ:=Lib.hid eT;clear hm eT;have k1:=g1.cell;have xI:=g1.frozen;have k2:=g2.cell;have xJ:=g2.frozen
   gi_wp2_with fail
   refine⟨trivial,?_⟩;refine(CallsIn.inRound l (callsIn_wide.2 (Wy x y _))).mono ?_;rintro e W2 ⟨rfl,rfl⟩;generalize C':Lib.compareBytes (aw x) (aw y)=c;have HC:=Lib.hid C';clear C';by_cases hc:c=0
   ·subst hc
    gi_wp2_with fail
    have WR:x=y:=zV (Nz HC.out);obtain⟨d1,d2⟩:=drop_cons HM.out;have iL:(pre++[x]).length=pre.length+1:=by simp
    refine⟨NF,trivial,⟨Aq,C9,g1,g2,g3,g4,g5,WO,?_,?_⟩,CO⟩
    ·rw[iL,d2];exact WQ.out
    ·rw[iL,d1,<- Ap.out,WR]
   ·have Na:(c != 0)=true:=by simpa using hc
    gi_wp2_with fail
    obtain⟨q1,q2,q3⟩:=LV.out _ c NF g1 g2 CO fun hp=>by
     have:=WG Ap.out HM.out hp (by rw[HC.out];exact hc);rw[HC.out]at this;exact this.symm
    exact⟨q1,⟨rfl,q2⟩,q3⟩
 case done =>
  rintro D ys W hD oS ⟨⟨rest,more,g1,g2,g3,g4,g5,g6,aT,nU⟩,hB⟩ hK;have HY:Hid (ys=Nm.back a):=oS;have Ap:=Lib.hid nU;clear oS nU aT b3 b4 b5 b6 b7 jF C8 xH;subst Ao;have k1:=g1.cell;have xI:=g1.frozen;have k2:=g2.cell;have xJ:=g2.frozen
  gi_wp2
  have hv:kU (Nm.back a) (Nm.back b) = -1:=by
   rw[<- HY.out];exact WH Ap.out (fun h=>WK.out (HY.out ▸ h))
  have n12:w.heap.size≠w.heap.size+1:=by omega
  have q1:=(g1.set (.int .i64 (-1))).other n12 (.int .i64 0);have q2:=(g2.other n12.symm (.int .i64 (-1))).set (.int .i64 0);have s6:=((KeepsOthers.setCell W ⟨w.heap.size,0,none⟩ (.int .i64 (-1))).trans (KeepsOthers.setCell _ ⟨w.heap.size+1,0,none⟩ (.int .i64 0))).same D _ hK rfl;refine⟨by simp,.inl ⟨_,_,rfl,run_takeDeferred s6,?_⟩⟩;have hg:=grownBy_putObj' ((W.setCell ⟨w.heap.size,0,none⟩ (.int .i64 (-1))).setCell ⟨w.heap.size+1,0,none⟩ (.int .i64 0)) D (.deferred none);have r1:=(Boxed.still q1 hg (fun r e=>by cases e;exact⟨_,s6,rfl⟩)).cell;have r2:=(Boxed.still q2 hg (fun r e=>by cases e;exact⟨_,s6,rfl⟩)).cell;refine⟨.tuple #[.int .i64 (-1),.int .i64 0],?_,by rw[hv],Ext.sj (((hB.setCell (p:=⟨w.heap.size,0,none⟩) (by simp) _).setCell (p:=⟨w.heap.size+1,0,none⟩) (by simp) _).trans (belowK_b (w:=w) (Nat.le_refl _) _ D _ _ (by omega) s6 rfl rfl))⟩;simp[results,Tryz.results76,go_sem,r1,r2]
 case stop =>
  rintro D c pre W hD nU ⟨⟨rfl,v,g1,g2,hv⟩,hB⟩ hK;have HP:Hid (pre <+: Nm.back a):=nU;have HV:=Lib.hid hv;clear nU hv b3 b4 b5 b6 b7 jF C8 xH;subst Ao
  gi_wp2
  refine⟨by simp,.inl ⟨_,_,rfl,run_takeDeferred hK,?_⟩⟩;have hg:=grownBy_putObj' W D (.deferred none);have r1:=(Boxed.still g1 hg (fun r e=>by cases e;exact⟨_,hK,rfl⟩)).cell;have r2:=(Boxed.still g2 hg (fun r e=>by cases e;exact⟨_,hK,rfl⟩)).cell;refine⟨.tuple #[.int .i64 v,.int .i64 0],?_,by rw[HV.out HP.out],Ext.sj (hB.trans (belowK_b (w:=w) (Nat.le_refl _) W D _ _ (by omega) hK rfl rfl))⟩;simp[results,Tryz.results76,go_sem,r1,r2]
set_option maxRecDepth 100000 in
set_option maxHeartbeats 4000000 in
theorem WS(a:ByteArray)(w:World)(ha:Nm.valid (aw a)=true) :
  Calls Tryz.prog 76 #[.string a,.string a] w fun e w'=>e=.returned (.tuple #[.int .i64 0,.int .i64 0])/\Ext w w':=by
 have WL:=Nm.xm a ha;have yZ:(a.toList==a.toList)=true:=by simp
 have HA:=Lib.hid ha;clear ha;refine(callsIn_wide (n:=5)).1 ?_;refine callsIn_of_wp_marks Tryz.func76 rfl trivial ?_ rfl;simp only[Tryz.ntmps76,List.size_toArray,List.length_cons,List.length_nil,Nat.reduceAdd,Nat.reduceSub,Array.replicate_succ,Array.replicate_zero,List.push_toArray,List.append_toArray,List.nil_append,List.cons_append]
 gi_wp2_with fail
 refine⟨trivial,?_⟩;refine(callsIn_wide.2 (iG a _ (by unfold maxLen;omega))).mono ?_;rintro e w1 ⟨rfl,dM⟩;rw[HA.out]
 gi_wp2_with fail
 refine⟨trivial,?_⟩;refine(callsIn_wide.2 (iG a _ (by unfold maxLen;omega))).mono ?_;rintro e w2 ⟨rfl,dK⟩;rw[HA.out];have Hk:Ext w w2:=((((Ext.refl w).alloc _).alloc _).trans dM).trans dK;have b1:Boxed w2 w.heap.size 3 (.int .i64 0):=by
  have h0:Boxed ((w.alloc (.cells #[.int .i64 0] 3)).alloc (.cells #[.int .i64 0] 33)) w.heap.size 3 (.int .i64 0):=(Boxed.new w _ _).alloc _;have h1:Boxed w1 w.heap.size 3 (.int .i64 0):=(dM.block _ h0.lt).trans h0;exact(dK.block _ h1.lt).trans h1
 have b2:Boxed w2 (w.heap.size+1) 33 (.int .i64 0):=by
  have h0:Boxed ((w.alloc (.cells #[.int .i64 0] 3)).alloc (.cells #[.int .i64 0] 33)) (w.heap.size+1) 33 (.int .i64 0):=by
   have:=Boxed.new (w.alloc (.cells #[.int .i64 0] 3)) 33 (.int .i64 0)
   rwa [World.size_alloc]at this
  have h1:Boxed w1 (w.heap.size+1) 33 (.int .i64 0):=(dM.block _ h0.lt).trans h0;exact(dK.block _ h1.lt).trans h1
 have k1:=b1.cell;have xI:=b1.frozen;have k2:=b2.cell;have xJ:=b2.frozen
 gi_wp2_with fail
 have n12:w.heap.size≠w.heap.size+1:=by omega
 have r1:=((b1.set (.int .i64 0)).other n12 (.int .i64 0)).cell;have r2:=((b2.other n12.symm (.int .i64 0)).set (.int .i64 0)).cell;exact⟨.tuple #[.int .i64 0,.int .i64 0],by simp[results,Tryz.results76,go_sem,r1,r2],rfl,Ext.sj ((Hk.below.setCell (p:=⟨w.heap.size,0,none⟩) (by simp) _).setCell (p:=⟨w.heap.size+1,0,none⟩) (by simp) _)⟩
end Go.Proofs.YtcmnpelmmekdkaaGreatDoor
end
section
namespace Go.Proofs.YtcmnpelmmekdkaaGreatDoor
open Go.RowKit Go.Shelf
attribute [local go_sem] Oper.semAt_some
def oY(W:World)(A:Nat)(pre:List ByteArray):Prop :=
 (∀ j,j<8->∃ v,W.cell? ⟨A,j,none⟩=some v/\W.frozen? ⟨A,j,none⟩=false)/\∀ i x,pre[i]?=some x->i<8/\W.cell? ⟨A,7-i,none⟩=some (.string x)
theorem oY.still{W W':World}{A:Nat}{pre:List ByteArray}{row:Option Nat}(h:oY W A pre)(hg:W.grownBy W' row)(hr:∀ r,row=some r->∃ o:Obj,W.heap[r]?=some o/\o.isCells=false):oY W' A pre :=
 ⟨fun j hj=>by obtain⟨v,h1,h2⟩:=h.1 j hj;exact⟨v,s5 h1 hg hr,(frozen_kept h1 hg hr).trans h2⟩,fun i x hx=>⟨(h.2 i x hx).1,s5 (h.2 i x hx).2 hg hr⟩⟩
theorem NG{W:World}{b1 b2 o1 o2:Nat}{u:Value}(h:b1≠b2):(W.setCell ⟨b1,o1,none⟩ u).cell? ⟨b2,o2,none⟩=W.cell? ⟨b2,o2,none⟩ :=
 World.cell?_of_block (Below.heap_setCell W ⟨b1,o1,none⟩ u b2 (fun e=>h e.symm))
theorem NH{W:World}{B B' o:Nat}{t:TypeId}{u v:Value}(h:Boxed W B t v)(aM:B'≠B):Boxed (W.setCell ⟨B',o,none⟩ u) B t v :=
 (Below.heap_setCell W ⟨B',o,none⟩ u B (fun e=>aM e.symm)).trans h
theorem oY.off{W:World}{A B o:Nat}{pre:List ByteArray}{u:Value}(h:oY W A pre)(aM:B≠A):oY (W.setCell ⟨B,o,none⟩ u) A pre :=
 ⟨fun j hj=>by obtain⟨v,h1,h2⟩:=h.1 j hj;exact⟨v,(NG aM).trans h1,by rw[World.frozen?_setCell];exact h2⟩,fun i x hx=>⟨(h.2 i x hx).1,(NG aM).trans (h.2 i x hx).2⟩⟩
theorem oY.put{W:World}{A m:Nat}{pre:List ByteArray}(x:ByteArray)(h:oY W A pre)(hm:m+1+pre.length=8):oY (W.setCell ⟨A,m,none⟩ (.string x)) A (pre++[x]):=by
 obtain⟨u,hu,-⟩:=h.1 m (by omega);have hs:(W.setCell ⟨A,m,none⟩ (.string x)).cell? ⟨A,m,none⟩=some (.string x):=World.cell?_setCell_same' _ _ _ (by rw[hu];rfl);have ho:∀ j,j≠m->(W.setCell ⟨A,m,none⟩ (.string x)).cell? ⟨A,j,none⟩=W.cell? ⟨A,j,none⟩:=fun j hj=>by
  apply World.cell?_setCell_other;intro e;cases e;exact hj rfl
 refine⟨fun j hj=>?_,fun i y hy=>?_⟩
 ·obtain⟨v,h1,h2⟩:=h.1 j hj;by_cases e:j=m
  ·subst e;exact⟨_,hs,by rw[World.frozen?_setCell];exact h2⟩
  ·exact⟨v,(ho j e).trans h1,by rw[World.frozen?_setCell];exact h2⟩
 ·have hl:i<pre.length+1:=by have:=(List.getElem?_eq_some_iff.1 hy).1;simpa using this
  by_cases e:i=pre.length
  ·subst e;rw[List.getElem?_append_right (Nat.le_refl _)]at hy;simp at hy;subst hy;refine⟨by omega,?_⟩;rw[show 7-pre.length=m by omega];exact hs
  ·rw[List.getElem?_append_left (by omega)]at hy;exact⟨(h.2 i y hy).1,(ho _ (by omega)).trans (h.2 i y hy).2⟩
set_option maxRecDepth 100000 in
set_option maxHeartbeats 4000000 in
theorem WT(s:ByteArray)(w:World)(hv:Nm.valid (aw s)=true) :
  Calls Tryz.prog 153 #[.string s] w fun e w'=>∃ (B k:Nat),(Nm.back s≠[]->k+(Nm.back s).length=8)/\e=.returned (.tuple #[.slice (some ⟨B,k,none⟩) (Nm.back s).length (Nm.back s).length,.int .i64 0])/\Ext w w'/\w.heap.size<=B/\∀ i x,(Nm.back s)[i]?=some x->w'.cell? ⟨B,7-i,none⟩=some (.string x):=by
 have vq:=Nm.xm s hv;have HV:=Lib.hid hv;clear hv;refine(callsIn_wide (n:=5)).1 ?_;refine callsIn_of_wp_marks Tryz.func153 rfl trivial ?_ rfl;simp only[Tryz.ntmps153,List.size_toArray,List.length_cons,List.length_nil,Nat.reduceAdd,Nat.reduceSub,Array.replicate_succ,Array.replicate_zero,List.push_toArray,List.append_toArray,List.nil_append,List.cons_append]
 gi_wp2_with fail
 refine⟨trivial,?_⟩;refine(callsIn_wide.2 (iG s _ (by unfold maxLen;omega))).mono ?_;rintro e w1 ⟨rfl,dM⟩;rw[HV.out]
 gi_wp2_with fail
 have NI:=run_make (P:=Tryz.prog) w1 32 9 _ _ rfl rfl rfl .i64 .i64 8 8 (by omega) (by omega) (by decide) (by omega);have cb:∃ nh:Array Value,nh.size=8/\Sem.run Tryz.prog (Instr.makeSlice 32 (.int .i64 8) (.int .i64 8)) w1=.ok (.slice (some ⟨w1.heap.size,0,none⟩) 8 8) (w1.alloc (.cells nh 9)):=⟨_,size_madeCells _ _,NI⟩;obtain⟨nh,WU,cW⟩:=cb;clear NI;rw[cW];clear cW
 gi_wp2_with fail
 have b1:Boxed (((w1.alloc (.cells nh 9)).alloc (.cells #[.slice (some ⟨w1.heap.size,0,none⟩) 8 8] 32)).alloc (.cells #[.int .i64 8] 3)) (w1.heap.size+1) 32 (.slice (some ⟨w1.heap.size,0,none⟩) 8 8):=by
  have:=Boxed.new (w1.alloc (.cells nh 9)) 32 (.slice (some ⟨w1.heap.size,0,none⟩) 8 8);rw[World.size_alloc]at this;exact this.alloc _
 have b2:Boxed (((w1.alloc (.cells nh 9)).alloc (.cells #[.slice (some ⟨w1.heap.size,0,none⟩) 8 8] 32)).alloc (.cells #[.int .i64 8] 3)) (w1.heap.size+1+1) 3 (.int .i64 8):=by
  have:=Boxed.new ((w1.alloc (.cells nh 9)).alloc (.cells #[.slice (some ⟨w1.heap.size,0,none⟩) 8 8] 32)) 3 (.int .i64 8)
  rwa [World.size_alloc,World.size_alloc]at this
 have b0:oY (((w1.alloc (.cells nh 9)).alloc (.cells #[.slice (some ⟨w1.heap.size,0,none⟩) 8 8] 32)).alloc (.cells #[.int .i64 8] 3)) w1.heap.size []:=by
  refine⟨fun j hj=>?_,by simp⟩;have hblk:(((w1.alloc (.cells nh 9)).alloc (.cells #[.slice (some ⟨w1.heap.size,0,none⟩) 8 8] 32)).alloc (.cells #[.int .i64 8] 3)).heap[w1.heap.size]?=some (.cells nh 9):=by
   have h1:=World.alloc_heap_new w1 (.cells nh 9);exact(Below.heap_alloc _ _ _ (by simp;omega)).trans ((Below.heap_alloc _ _ _ (by simp)).trans h1)
  exact⟨nh[j]'(by omega),by simp[World.cell?,hblk,WU,hj],by simp[World.frozen?,hblk]⟩
 have jF:Below w.heap.size w (((w1.alloc (.cells nh 9)).alloc (.cells #[.slice (some ⟨w1.heap.size,0,none⟩) 8 8] 32)).alloc (.cells #[.int .i64 8] 3)):=(((dM.alloc _).alloc _).alloc _).below;have Da:w.heap.size<=w1.heap.size:=dM.below.size;have h8:(Nm.back s).length<=8:=by
  by_cases hr:aw s=[46]
  ·simp[Nm.back,Nm.labels,hr]
  ·exact((Nm.Mv s hr vq).1 HV.out).1
 refine GL rfl (by omega) (gf:=111) (fb := #[.string s]) (lb := #[]) rfl trivial (enters_of Tryz.func111 (by kernel_rfl) rfl)
  (GW 4 (by omega) s (by unfold maxLen;omega) _) (fun _ _=>trivial) (fun _ _ _ _ _ _ _ _=>trivial) (Below.refl _ _) (fun _=>rfl)
  (fun pre W=>(oY W w1.heap.size pre/\Boxed W (w1.heap.size+1) 32 (.slice (some ⟨w1.heap.size,0,none⟩) 8 8)/\∃ n:Nat,n+pre.length=8/\Boxed W (w1.heap.size+1+1) 3 (.int .i64 n))/\Below w.heap.size w W)
  (fun c pre W=>False/\Below w.heap.size w W)
  (OwnFrom.and (Own.from (fun pre A B row hs hg hr=>by
   obtain⟨g0,g1,n,g3,g4⟩:=hs
   exact⟨g0.still hg hr,Boxed.still g1 hg hr,n,g3,Boxed.still g4 hg hr⟩) _) (ownFrom_below (Nat.le_refl _) (by simp;omega)))
  (fun c=>OwnFrom.and (Own.from (fun pre A B row hs hg hr=>hs.elim) _) (ownFrom_below (Nat.le_refl _) (by simp;omega)))
  ⟨⟨b0,b1,8,rfl,b2⟩,jF⟩
  (fun x=>{ tmps := #[.string s,undef,.slice none 0 0,.int .i64 0,.string s,.pointer (some ⟨w1.heap.size+1,0,none⟩),.pointer (some ⟨w1.heap.size+1+1,0,none⟩),.func (.func 111) #[.string s] #[],.string x,.string s,.string s,.bool true,.bool false,.slice (some ⟨w1.heap.size,0,none⟩) 8 8,.slice (some ⟨w1.heap.size,0,none⟩) 8 8,.int .i64 8,.string s,.func (.func 111) #[.string s] #[],.func (.func 111) #[.string s] #[],.string x,undef,undef,undef,undef,undef,undef,undef,undef,undef,undef,undef,undef,undef],defers:=[] }) ?assign ?body ?done ?stop
 case assign =>
  intro l x W K hK
  gi_wp2
  exact hK
 case body =>
  rintro l pre x W ⟨⟨g0,g1,n,hn,g2⟩,hB⟩ hlen;have ni:1<=n:=by omega
  obtain⟨m,rfl⟩:∃ m,n=m+1:=⟨n-1,by omega⟩;obtain⟨old,r1,r1f⟩:=g0.1 m (by omega);have k1:=g1.cell;have xI:=g1.frozen;have k2:=g2.cell;have xJ:=g2.frozen;clear b0 b1 b2 jF
  gi_wp2_with fail
  refine⟨(KeepsOthers.setCell _ _ _).trans (KeepsOthers.setCell _ _ _),trivial,⟨(g0.off (by omega)).put x (by omega),NH (g1.other (by omega) _) (by omega),m,by simp;omega,NH (g2.set _) (by omega)⟩,?_⟩;exact(hB.setCell (p:=⟨w1.heap.size+1+1,0,none⟩) (by simp;omega) _).setCell (p:=⟨w1.heap.size,m,none⟩) (by simp;omega) _
 case done =>
  rintro D ys W hD oS ⟨⟨g0,g1,n,hn,g2⟩,hB⟩ hK;have k1:=g1.cell;have xI:=g1.frozen;have k2:=g2.cell;have xJ:=g2.frozen;clear b0 b1 b2 jF;have HY:Hid (ys=Nm.back s):=oS;have HG:=Lib.hid g0;have HN:=Lib.hid hn;clear oS g0 h8
  gi_wp2
  all_goals
   refine⟨by simp,.inl ⟨_,_,rfl,run_takeDeferred hK,?_⟩⟩;have WV:=HG.out.still (grownBy_putObj' _ D (.deferred none)) (fun r e=>by cases e;exact⟨_,hK,rfl⟩);have eD:=hB.trans (belowK_b (w:=w) (Nat.le_refl _) W D _ (.deferred none) (by simp at hD;omega) hK rfl rfl);have hn:=HN.out
  ·have WW:ys=[]:=List.length_eq_zero_iff.1 (by omega);have iy:Nm.back s=[]:=by rw[<- HY.out];exact WW
   refine⟨.tuple #[.slice (some ⟨w1.heap.size,0,none⟩) 0 0,.int .i64 0],by simp[results,Tryz.results153,go_sem],w1.heap.size,0,fun h=>absurd iy h,by rw[iy];rfl,Ext.sj eD,Da,fun i x hx=>by rw[iy]at hx;simp at hx⟩
  ·have WX:=HY.out;subst WX;refine⟨.tuple #[.slice (some ⟨w1.heap.size,n,none⟩) (8-n) (8-n),.int .i64 0],by simp[results,Tryz.results153,go_sem],w1.heap.size,n,fun _=>hn,by rw[show(Nm.back s).length=8-n by omega],Ext.sj eD,Da,fun i x hx=>(WV.2 i x hx).2⟩
 case stop =>
  rintro D c pre W hD nU ⟨hf,-⟩ hK;exact hf.elim
set_option maxRecDepth 100000 in
set_option maxHeartbeats 4000000 in
theorem WY(s:ByteArray)(w:World)(hs:s.size<=maxLen)(hv:Nm.valid (aw s)=false) :
  Calls Tryz.prog 153 #[.string s] w fun e w'=>e=.returned (.tuple #[.slice none 0 0,.int .i64 11])/\Ext w w':=by
 refine(callsIn_wide (n:=5)).1 ?_;refine callsIn_of_wp_marks Tryz.func153 rfl trivial ?_ rfl;simp only[Tryz.ntmps153,List.size_toArray,List.length_cons,List.length_nil,Nat.reduceAdd,Nat.reduceSub,Array.replicate_succ,Array.replicate_zero,List.push_toArray,List.append_toArray,List.nil_append,List.cons_append]
 gi_wp2_with fail
 refine⟨trivial,?_⟩;refine(callsIn_wide.2 (iG s _ hs)).mono ?_;rintro e w1 ⟨rfl,dM⟩;rw[hv]
 gi_wp2_with fail
 exact⟨_,by simp[results,Tryz.results153,go_sem],rfl,dM⟩
end Go.Proofs.YtcmnpelmmekdkaaGreatDoor
end
