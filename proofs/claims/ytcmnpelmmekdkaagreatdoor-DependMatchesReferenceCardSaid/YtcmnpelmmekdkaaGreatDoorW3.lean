/- Lemmas of mine. Conditions: as stated. -/
import Derived.Test.YtcmnpelmmekdkaaGreatDoorW0
import Derived.Lib.SmallJoins
import Derived.RangeFuncNested
import Derived.RangeFuncBound
import Derived.RangeFuncCalls
import Derived.RangeFuncLeaves
import Derived.Shelf.Abstract
import Derived.Shelf.RegionOpen
import Derived.OwnWalkIn
import Derived.TacticsInMore
import Derived.LoopNIn
import Derived.LoopIn
import Derived.RangeFuncFrom
import Derived.Lib.Bytealg
import Derived.RangeFuncBox
import Derived.Laws.MakeOwn
set_option linter.unusedVariables false
set_option linter.unusedSimpArgs false
section
namespace Go.Proofs.YtcmnpelmmekdkaaGreatDoor.Nm
def split:List UInt8->List (List UInt8)
 |[]=>[[]]
 |c::r=>if c=46 then[]::split r else match split r with
  |[]=>[[c]]
  |h::t=>(c::h)::t
theorem nT(l:List UInt8):split l≠[]:=by
 cases l with
 |nil=>simp[split]
 |cons c r=>simp only[split];split<;>(try split)<;>simp
theorem rq(c:UInt8)(r:List UInt8)(h:c≠46):∃ x t,split r=x::t/\split (c::r)=(c::x)::t:=by
 have:=nT r
 match hr:split r,this with
 |x::t,_=>exact⟨x,t,rfl,by simp[split,h,hr]⟩
theorem Cp(a b:List UInt8):split (a++46::b)=split a++split b:=by
 induction a with
 |nil=>simp[split]
 |cons c r ih =>
  by_cases h:c=46
  ·subst h;simp[split,ih]
  ·obtain⟨x,t,h1,h2⟩:=rq c r h;obtain⟨y,u,h3,h4⟩:=rq c (r++46::b) h;rw[List.cons_append,h4,h2];rw[ih,h1]at h3;simp only[List.cons_append,List.cons.injEq]at h3;obtain⟨rfl,rfl⟩:=h3;rfl
theorem zK(l:List UInt8)(h:46 ∉ l):split l=[l]:=by
 induction l with
 |nil=>rfl
 |cons c r ih =>
  simp only[List.mem_cons,not_or]at h;have hc:c≠46:=fun e=>h.1 e.symm;simp[split,hc,ih h.2]
theorem Ut(l:List UInt8):split (l++[46])=split l++[[]]:=Cp l []
theorem Uu(l:List UInt8)(c:UInt8)(h:c≠46):∃ i x,split l=i++[x]/\split (l++[c])=i++[x++[c]]:=by
 induction l with
 |nil=>exact⟨[],[],rfl,by simp[split,h]⟩
 |cons d r ih =>
  obtain⟨i,x,h1,h2⟩:=ih;by_cases hd:d=46
  ·subst hd;exact⟨[]::i,x,by simp[split,h1],by simp[split,h2]⟩
  ·obtain⟨y,u,h3,h4⟩:=rq d r hd;obtain⟨z,v,h5,h6⟩:=rq d (r++[c]) hd;rw[h1]at h3;rw[h2]at h5;rw[List.cons_append,h6,h4];cases i with
   |nil =>
    simp only[List.nil_append,List.cons.injEq]at h3 h5;obtain⟨rfl,rfl⟩:=h3;obtain⟨rfl,rfl⟩:=h5;exact⟨[],d::x,rfl,rfl⟩
   |cons p q =>
    simp only[List.cons_append,List.cons.injEq]at h3 h5;obtain⟨rfl,rfl⟩:=h3;obtain⟨rfl,rfl⟩:=h5;exact⟨(d::p)::q,x,rfl,rfl⟩
theorem LL(l:List UInt8):∀ x∈split l,46 ∉ x:=by
 induction l with
 |nil=>simp[split]
 |cons c r ih =>
  by_cases hc:c=46
  ·subst hc;simp only[split,if_true];intro x hx;rcases List.mem_cons.1 hx with rfl|h
   ·simp
   ·exact ih x h
  ·obtain⟨y,u,h1,h2⟩:=rq c r hc;rw[h2];intro x hx;rcases List.mem_cons.1 hx with rfl|h
   ·simp only[List.mem_cons,not_or];exact⟨fun e=>hc e.symm,ih y (by rw[h1];simp)⟩
   ·exact ih x (by rw[h1];simp[h])
def glue:List (List UInt8)->List UInt8
 |[]=>[]
 |[x]=>x
 |x::y::t=>x++46::glue (y::t)
theorem vj(l:List UInt8):glue (split l)=l:=by
 induction l with
 |nil=>rfl
 |cons c r ih =>
  by_cases hc:c=46
  ·subst hc;simp only[split,if_true];have:=nT r
   match hr:split r,this with
   |x::t,_=>rw[hr]at ih;simp[glue,ih]
  ·obtain⟨y,u,h1,h2⟩:=rq c r hc;rw[h2];rw[h1]at ih;cases u with
   |nil=>simp only[glue]at ih ⊢;rw[ih]
   |cons z v=>simp only[glue,List.cons_append]at ih ⊢;rw[ih]
theorem LM(ls:List (List UInt8))(aH:ls≠[])(h:∀ x∈ls,46 ∉ x):split (glue ls)=ls:=by
 induction ls with
 |nil=>exact absurd rfl aH
 |cons x t ih =>
  cases t with
  |nil=>exact zK x (h x (by simp))
  |cons y u =>
   simp only[glue];rw[Cp,zK x (h x (by simp)),ih (by simp) (fun z hz=>h z (by simp[hz]))];rfl
theorem LN(a b:List UInt8)(h:split a=split b):a=b:=by rw[<- vj a,<- vj b,h]
def Gc(c:UInt8):Bool:=(decide (97<=c.toNat)&&decide (c.toNat<=122))||(decide (48<=c.toNat)&&decide (c.toNat<=57))
def nU(l:List UInt8)(i:Nat):Bool:=match l[i]? with
 |some c=>Gc c||(c==45&&decide (0<i)&&decide (i+1<l.length))
 |none=>true
def label(l:List UInt8):Bool:=decide (1<=l.length/\l.length<=12/\∀ i,i<l.length->nU l i=true)
def parts(ls:List (List UInt8)):Bool:=decide (ls.length<=8)&&(match ls with
 |[]=>true
 |x::t=>(label x||x==[42])&&t.all label)
def valid(l:List UInt8):Bool:=decide (l=[46])||(decide (l.length<=60)&&parts (split l))
def labels(l:List UInt8):List (List UInt8):=if l=[46]then[]else split l
def under(s z:List UInt8):Bool:=decide (labels z <:+ labels s)
def il(l:List UInt8):Bool:=match l with
 |c::_=>c==42
 |[]=>false
end Go.Proofs.YtcmnpelmmekdkaaGreatDoor.Nm
end
section
namespace Go.Proofs.YtcmnpelmmekdkaaGreatDoor
open Go.RowKit
theorem Nm.len(s:ByteArray):s.data.toList.length=s.size:=by show s.data.toList.length=s.data.size;simp
theorem Nm.Cq(s:ByteArray)(k:Nat)(h:k<s.size):Nm.nU s.data.toList k=true ↔
  ((97<=(s[k].toNat:Int)/\(s[k].toNat:Int)<=122)\/(48<=(s[k].toNat:Int)/\(s[k].toNat:Int)<=57)\/((s[k].toNat:Int)=45/\0<k/\k+1<s.size)):=by
 have hk:s.data.toList[k]?=some s[k]:=by
  rw[List.getElem?_eq_getElem (by simpa using h)];rfl
 have hl:s.data.toList.length=s.size:=Nm.len s;have Uv:(s[k]==45)=decide ((s[k].toNat:Int)=45):=by
  rw[Bool.eq_iff_iff];simp only[beq_iff_eq,decide_eq_true_eq];constructor
  ·intro e;rw[e];rfl
  ·intro e;apply UInt8.toNat.inj;show _=45;omega
 simp only[Nm.nU,hk,Nm.Gc,hl,Uv];simp;omega
theorem Nm.zL{p:Nat->Bool}{k:Nat}(h:∀ j,j<k->p j=true)(hk:p k=true):∀ j,j<k+1->p j=true:=by
 intro j hj;by_cases e:j=k
 ·subst e;exact hk
 ·exact h j (by omega)
theorem Nm.Cr(l:List UInt8)(k:Nat)(h:k<l.length)(hk:Nm.nU l k≠true):false=Nm.label l:=by
 symm;simp only[Nm.label,decide_eq_false_iff_not];rintro⟨_,_,h3⟩;exact hk (h3 k h)
theorem Nm.LO(l:List UInt8)(h:∀ i,i<l.length->Nm.nU l i=true):Nm.label l=decide (1<=l.length/\l.length<=12):=by
 rw[Bool.eq_iff_iff];simp only[Nm.label,decide_eq_true_eq];exact⟨fun h=>⟨h.1,h.2.1⟩,fun g=>⟨g.1,g.2,h⟩⟩
set_option maxHeartbeats 800000 in
theorem zM(s:ByteArray)(w:World)(hs:s.size<=maxLen) :
  Calls Tryz.prog 50 #[.string s] w fun e w'=>e=.returned (.bool (Nm.label s.data.toList))/\w=w':=by
 unfold maxLen at hs;have hlen:s.data.toList.length=s.size:=Nm.len s;have pT:=Lib.hid hlen;clear hlen
 go_enter Tryz.func50,Tryz.ntmps50
 go_wp2
 go_loop [3] (fun i=>∃ k:Nat,k<=s.size/\i=.int .i64 k/\Hid (∀ j,j<k->Nm.nU s.data.toList j=true)) (fun i=>s.size-(intOf i).toNat)
 case atStart=>exact⟨0,Nat.zero_le _,rfl,(fun j hj=>by omega:∀ j,j<0->Nm.nU s.data.toList j=true)⟩
 case round =>
  obtain⟨k,hk,rfl,I⟩:=hrel;by_cases ai:k<s.size
  ·have HL:=Lib.hid (Nm.Cq s k ai);by_cases hz:(k:Int)<(s.size:Int)-1;all_goals
    go_wp2
    all_goals first
     |(exfalso;omega)
     |(refine⟨⟨k+1, by omega, by go_num, ?_⟩, by simp[intOf];omega⟩
       exact Nm.zL I.out (HL.out.2 (by omega)))
     |(go_ret
       exact⟨mG (Nm.Cr s.data.toList k (by rw[pT.out];exact ai) (fun h => absurd (HL.out.1 h) (by omega))), rfl⟩)
  ·obtain rfl:k=s.size:=by omega
   go_wp2
   all_goals
    go_ret
    exact⟨mG (by rw[Nm.LO s.data.toList (by rw[pT.out];exact I.out),pT.out,Bool.eq_iff_iff];simp;omega),rfl⟩
def At(w:World)(b off:Nat)(cs:List Value):Prop:=∀ j u,cs[j]?=some u->w.cell? ⟨b,off+j,none⟩=some u
theorem At.ext{w w':World}(hx:Ext w w'){b off:Nat}{cs:List Value}(h:At w b off cs):At w' b off cs:=fun j u hj=>hx.keep (h j u hj)
def oU{α:Type}(R:World->List Value->α->Prop)(size:Nat)(w:World)(v:Value)(l:List α):Prop :=
 ∃ a cap,v=.slice a l.length cap/\l.length<=cap/\cap<=maxLen /\
  (∀ b,a=some b->b.spot=none) /\
  ∀ (i:Nat) (x:α),l[i]?=some x->∃ b off cs,a=some ⟨b,off,none⟩/\cs.length=size/\At w b (off+i*size) cs/\R w cs x
def Uw{α:Type}(R:World->List Value->α->Prop):Prop:=∀ (w w':World) (cs:List Value) (x:α),Ext w w'->R w cs x->R w' cs x
theorem oU.ext{α:Type}{R:World->List Value->α->Prop}(hR:Uw R){size:Nat}{w w':World}{v:Value}{l:List α}(hx:Ext w w')(h:oU R size w v l):oU R size w' v l:=by
 obtain⟨a,cap,h1,h2,h3,h4,h5⟩:=h;refine⟨a,cap,h1,h2,h3,h4,fun i x hi=>?_⟩;obtain⟨b,off,cs,g1,g2,g3,g4⟩:=h5 i x hi;exact⟨b,off,cs,g1,g2,g3.ext hx,hR _ _ _ _ hx g4⟩
theorem oU.LQ{α:Type}{R:World->List Value->α->Prop}{size:Nat}{w:World}{base:Nat}{e:TypeId}{v:Value}{n:Nat}{xs:List Value}{l:List α}(h:w.ownsRow base e size v n xs)(hl:l.length=n)
  (hR:∀ (i:Nat) (x:α),l[i]?=some x->R w ((xs.drop (i*size)).take size) x):oU R size w v l:=by
 subst hl;obtain⟨hlen,h1|⟨g,cap,cur,h1,h2,h3,h4,h5,h6,h7⟩⟩:=h
 ·obtain⟨rfl,h0⟩:=h1;refine⟨none,0,by rw[h0],by omega,by unfold maxLen;omega,(fun b hb=>by cases hb),fun i x hi=>?_⟩;rw[List.eq_nil_of_length_eq_zero h0]at hi;simp at hi
 ·have h:w.ownsRow base e size v l.length xs:=⟨hlen,.inr ⟨g,cap,cur,h1,h2,h3,h4,h5,h6,h7⟩⟩;subst h1;refine⟨some ⟨g,0,none⟩,cap,rfl,h4,h5,(fun b hb=>by cases hb;rfl),fun i x hi=>?_⟩;have iX:i<l.length:=(List.getElem?_eq_some_iff.1 hi).1;have hb:i*size+size<=l.length*size:=by
   have:(i+1)*size<=l.length*size:=Nat.mul_le_mul_right _ iX
   rwa [Nat.add_mul,Nat.one_mul]at this
  refine⟨g,0,(xs.drop (i*size)).take size,rfl,by rw[List.length_take,List.length_drop,hlen];omega,fun j u hj=>?_,hR i x hi⟩;have dI:j<size:=by
   have:=(List.getElem?_eq_some_iff.1 hj).1;rw[List.length_take]at this;omega
  have hc:=h.cellAt (i*size+j) (by omega);rw[List.getElem?_take,if_pos dI,List.getElem?_drop]at hj;rw[hj]at hc
  simpa using hc
def Gd(_:World)(cs:List Value)(s:ByteArray):Prop:=cs=[.string s]/\s.size<=maxLen
structure Datum where
 text:ByteArray
 n:Int
 m:Int
structure eD where
 name:ByteArray
 type:Int
 kc:Int
 data:List Datum
structure Key where
 n:Int
 pU:Int
structure iS where
 aE:ByteArray
 key:Int
 pU:Int
 ru:Int
 til:Int
 sum:Int
structure Signed where
 set:eD
 sigs:List iS
structure aP where
 ad:ByteArray
 ab:List Signed
def jx(n:Int):Prop := -9223372036854775808<=n/\n<=9223372036854775807
def Ge(n:Int):Prop:=0<=n/\n<=18446744073709551615
abbrev aw(s:ByteArray):List UInt8:=s.data.toList
theorem zN{a b:ByteArray}(h:aw a=aw b):a=b:=by
 cases a;cases b;congr 1;exact Array.toList_inj.1 h
theorem Tryz.Ux:(Tryz.prog.info? 9).map (fun i=>(i.zero,i.size,i.bytes))=some (some (.string ⟨#[]⟩),1,16):=by kernel_rfl
theorem Nm.LR(l:List UInt8)(k:Nat)(c:UInt8)(hk:l[k]?=some c)(hc:c=46):Nm.split (l.take (k+1))=Nm.split (l.take k)++[[]]:=by
 subst hc;rw[List.take_add_one,hk];exact Nm.Ut _
theorem Nm.LS(l:List UInt8)(k:Nat)(c:UInt8)(hk:l[k]?=some c)(hc:c≠46)(i:List (List UInt8))(x:List UInt8)(h:Nm.split (l.take k)=i++[x]):Nm.split (l.take (k+1))=i++[x++[c]]:=by
 rw[List.take_add_one,hk];obtain⟨i',x',h1,h2⟩:=Nm.Uu (l.take k) c hc;rw[h1]at h;obtain⟨rfl,e⟩:=List.append_inj' h rfl;simp only[List.cons.injEq,and_true]at e;subst e;exact h2
theorem Nm.Uy(s:ByteArray)(k:Nat)(h:k<s.size):aw (s.extract k (k+1))=[s[k]]:=by
 have h1:(s.extract k (k+1)).data=s.data.extract k (k+1):=ByteArray.data_extract;show(s.extract k (k+1)).data.toList=_;rw[h1,Array.toList_extract,List.extract_eq_take_drop,show k+1-k=1 by omega];have hk:k<s.data.toList.length:=by simpa using h
 rw[List.drop_eq_getElem_cons hk];rfl
def LU{α:Type}(R:World->Value->α->Prop)(P:α->Prop)(w:World)(e:Ending)(w':World):Prop:=∃ v x,e=.returned v/\P x/\R w' v x/\Ext w w'
set_option maxHeartbeats 1000000 in
theorem LW(s:ByteArray)(w:World)(hs:s.size<=1000) :
  Calls Tryz.prog 49 #[.string s] w (LU (oU Gd 1) (fun xs:List ByteArray=>xs.map aw=Nm.split (aw s)) w):=by
 obtain⟨i0,hi,Gf,jP,ix⟩:=info_parts Tryz.Ux
 go_enter Tryz.func49,Tryz.ntmps49
 go_wp2
 go_loopw [3,4] (fun v i wr=>∃ (k:Nat) (xs:List ByteArray),k<=s.size/\i=.int .i64 k/\xs.length<=k+1/\wr.ownsRow w.heap.size 9 1 v xs.length (xs.map Value.string)/\Ext w wr /\
   Hid (xs.map aw=Nm.split ((aw s).take k)/\∀ x∈xs,x.size<=k)) (fun _ i _=>s.size-(intOf i).toNat)
 case atStart =>
  refine⟨0,[⟨#[]⟩],Nat.zero_le _,rfl,by simp,?_,(Ext.refl _).alloc _,(⟨rfl,fun z hz=>by rw[List.mem_singleton.1 hz];exact Nat.le_refl _⟩:_/\_)⟩;exact⟨by simp,.inr ⟨w.heap.size,1,#[.string ⟨#[]⟩],rfl,Nat.le_refl _,heap_alloc_new w _,by simp,by unfold maxLen;omega,by simp,by simp⟩⟩
 case round =>
  obtain⟨k,xs,hk,rfl,iT,bI,hx,I⟩:=hrel;by_cases ai:k<s.size
  ·have Cs:∃ ys x,xs=ys++[x]:=by
    have:=Nm.nT ((aw s).take k);rw[<- I.out.1]at this;exact⟨xs.dropLast,xs.getLast (by simpa using this),(List.dropLast_concat_getLast _).symm⟩
   obtain⟨ys,x,rfl⟩:=Cs;obtain⟨g,cap,rfl⟩:=Joins.ownsRow_form bI (by simp);have adg:ys.length<=k:=by simpa using iT
   have iQ:=bI.lt g rfl;have LX:(aw s)[k]?=some s[k]:=by rw[List.getElem?_eq_getElem (by simpa [aw]using ai)];rfl
   have LY:=Lib.hid LX;clear LX iT;by_cases hd:s[k]=46
   ·have hb:((s[k].toNat:Int)==46)=true:=by rw[hd];rfl
    have HD:=Lib.hid hd;clear hd
    go_wp2_with (at_builtin;refine wpList_append_own _ rfl _ _ 32 rfl w.heap.size 9 i0 (.string ⟨#[]⟩) 1 16 Tryz.underlying32 hi Gf jP ix rfl (by decide) _ _ _ rfl (bI.alloc _) ⟨wr.heap.size,0,none⟩ 1 1 [.string ⟨#[]⟩] rfl rfl (cell_one_new _ _ _) (by simp[Value.oneCell']) ?c3 ?c4 ?c5 ?_)
    case c3=>simp;unfold maxLen;omega
    case c4=>simp;omega
    case c5=>simp;have:=hx.size;omega
    intro v' w1 LZ L3 _;have hX:=(hx.alloc (.cells #[.string ⟨#[]⟩] 9)).grown L3 (fun j e=>by cases e;exact iQ.1);have H1:=Lib.hid LZ;clear LZ L3 bI
    go_wp2
    go_roundw
    case rel =>
     refine⟨k+1,ys++[x]++[⟨#[]⟩],by omega,by go_num,by simp;omega,by simpa using H1.out,hX,(⟨?_,?_⟩:_/\_)⟩
     ·rw[Nm.LR _ k _ LY.out HD.out,<- I.out.1];simp
     ·intro z hz;simp only[List.mem_append,List.mem_singleton]at hz;rcases hz with hz|rfl
      ·have:=I.out.2 z (by simpa using hz);omega
      ·exact Nat.zero_le _
    case measure=>simp[intOf];omega
   ·have hb:((s[k].toNat:Int)==46)=false:=by
     simp only[beq_eq_false_iff_ne];intro e;apply hd;apply UInt8.toNat.inj;show _=46;omega
    have HD:=Lib.hid hd;clear hd;have hc:=bI.cellAt ys.length (by simp);have ss:wr.cell? ⟨g,ys.length,none⟩=some (.string x):=by rw[hc];simp
    have hf:=bI.frozenAt ys.length;clear hc;have oz:x.size<=k:=I.out.2 x (by simp);have kz:(s.extract k (k+1)).size<=1:=by rw[ByteArray.size_extract];omega
    have B1:∀ W,(Op.stringOp .add x (s.extract k (k+1))).run Tryz.prog W=.ok (.string (x++s.extract k (k+1))) W:=fun W=>run_string_add_sum W _ _ (by omega);have Uz:=Lib.hid (Nm.Uy s k ai)
    go_wp2
    go_region
    have aV:=bI.stored ys.length (.string (x++s.extract k (k+1)));have H1:=Lib.hid aV.1.drew;have hX:Ext w (wr.setCell ⟨g,ys.length,none⟩ (.string (x++s.extract k (k+1)))).drew:=(hx.setCell iQ.1 _).drew;clear aV bI ss hf B1
    go_wp2
    go_roundw
    case rel =>
     have gp:Nm.split ((aw s).take k)=ys.map aw++[aw x]:=by rw[<- I.out.1];simp
     refine⟨k+1,ys++[x++s.extract k (k+1)],by omega,by go_num,by simp;omega,?_,hX,(⟨?_,?_⟩:_/\_)⟩
     ·have h1:=H1.out;simp only[List.map_append,List.map_cons,List.map_nil]at h1;rw[List.set_append_right _ _ (by simp)]at h1
      simpa using h1
     ·rw[Nm.LS _ k _ LY.out HD.out _ _ gp];simp[aw];have:=Uz.out
      simpa [aw]using this
     ·intro z hz;simp only[List.mem_append,List.mem_singleton]at hz;rcases hz with hz|rfl
      ·have:=I.out.2 z (by simp[hz]);omega
      ·rw[ByteArray.size_append];omega
    case measure=>simp[intOf];omega
  ·obtain rfl:k=s.size:=by omega
   have Gg:=Joins.ownsRow_forms bI
   go_wp2
   go_ret
   refine⟨_,xs,rfl,?_,oU.LQ bI rfl (fun i z hz=>?_),hx⟩
   ·show xs.map aw=_;rw[I.out.1,List.take_of_length_le (Nat.le_of_eq (Nm.len s))]
   ·have hi:=(List.getElem?_eq_some_iff.1 hz);refine⟨?_,?_⟩
    ·rw[Nat.mul_one,List.drop_eq_getElem_cons (by simpa using hi.1)];simp[hi.2]
    ·have:=I.out.2 z (List.mem_of_getElem? hz);unfold maxLen;omega
theorem oU.strs{w:World}{v:Value}{xs:List ByteArray}(h:oU Gd 1 w v xs):∃ a cap,v=.slice a xs.length cap/\xs.length<=cap/\cap<=maxLen /\
  ∀ (i:Nat) (x:ByteArray),xs[i]?=some x->∃ b off,a=some ⟨b,off,none⟩/\w.cell? ⟨b,off+i,none⟩=some (.string x)/\x.size<=maxLen:=by
 obtain⟨a,cap,h1,h2,h3,_,h5⟩:=h;refine⟨a,cap,h1,h2,h3,fun i x hi=>?_⟩;obtain⟨b,off,cs,g1,g2,g3,g4,g5⟩:=h5 i x hi;subst g4;have:=g3 0 _ rfl;rw[Nat.mul_one,Nat.add_zero]at this;exact⟨b,off,g1,this,g5⟩
theorem zO(a b:ByteArray):(a.toList==b.toList)=decide (aw a=aw b):=by
 rw[ByteArray.toList_eq,ByteArray.toList_eq,Bool.eq_iff_iff];simp only[beq_iff_eq,decide_eq_true_eq]
def Nm.ke(ls:List (List UInt8))(i:Nat):Bool:=match ls[i]? with
 |some x=>Nm.label x||(decide (i=0)&&decide (x=[42]))
 |none=>true
theorem Nm.na(ls:List (List UInt8)):Nm.parts ls=true↔ls.length<=8/\∀ i,i<ls.length->Nm.ke ls i=true:=by
 cases ls with
 |nil=>simp[Nm.parts]
 |cons x t =>
  simp only[Nm.parts,Bool.and_eq_true,decide_eq_true_eq,Bool.or_eq_true,beq_iff_eq,List.all_eq_true];constructor
  ·rintro⟨h1,h2,h3⟩;refine⟨h1,fun i hi=>?_⟩;cases i with
   |zero=>simp[Nm.ke];exact h2
   |succ j =>
    have hj:j<t.length:=by simpa using hi
    simp only[Nm.ke,List.getElem?_cons_succ,List.getElem?_eq_getElem hj];simp[h3 _ (List.getElem_mem hj)]
  ·rintro⟨h1,h2⟩;refine⟨h1,?_,fun y hy=>?_⟩
   ·have:=h2 0 (by simp);simpa [Nm.ke]using this
   ·obtain⟨j,hj,rfl⟩:=List.getElem_of_mem hy;have:=h2 (j+1) (by simpa using hj)
    simpa [Nm.ke,List.getElem?_eq_getElem hj]using this
theorem Nm.L4(ls:List (List UInt8))(k:Nat)(h:k<ls.length)(hk:Nm.ke ls k=false):Nm.parts ls=false:=by
 rw[<- Bool.not_eq_true,Nm.na];rintro⟨_,g⟩;rw[g k h]at hk;cases hk
theorem Nm.UA(ls:List (List UInt8))(h:∀ i,i<ls.length->Nm.ke ls i=true):Nm.parts ls=decide (ls.length<=8):=by
 rw[Bool.eq_iff_iff,Nm.na];simp only[decide_eq_true_eq];exact⟨fun g=>g.1,fun g=>⟨g,h⟩⟩
theorem Nm.L5(l:List UInt8)(h:¬ l=[46])(hl:60<l.length):Nm.valid l=false:=by
 simp only[Nm.valid,h,decide_false,Bool.false_or,Bool.and_eq_false_iff,decide_eq_false_iff_not];omega
theorem Nm.L6(l:List UInt8)(h:¬ l=[46])(hl:l.length<=60):Nm.valid l=Nm.parts (Nm.split l):=by
 simp only[Nm.valid,h,decide_false,Bool.false_or,hl,decide_true,Bool.true_and]
set_option maxHeartbeats 800000 in
theorem UB(s:ByteArray)(w:World)(hs:s.size<=maxLen) :
  Calls Tryz.prog 24 #[.string s] w fun e w'=>e=.returned (.bool (Nm.valid (aw s)))/\Ext w w':=by
 unfold maxLen at hs;have hlen:=Nm.len s;by_cases hr:aw s=[46]
 ·have hb:(s.toList==[46])=true:=by rw[ByteArray.toList_eq];simp only[beq_iff_eq];exact hr
  have hv:Nm.valid (aw s)=true:=by simp[Nm.valid,hr]
  have HV:=Lib.hid hv;clear hv hr hlen
  go_enter Tryz.func24,Tryz.ntmps24
  go_wp2
  go_ret
  exact⟨by rw[HV.out];rfl,Ext.refl _⟩
 ·have hb:(s.toList==[46])=false:=by rw[ByteArray.toList_eq];simp only[beq_eq_false_iff_ne];exact hr
  by_cases vk:s.size<=60
  ·have HV:=Lib.hid (Nm.L6 (aw s) hr (by rw[hlen];exact vk));clear hr hlen
   go_enter Tryz.func24,Tryz.ntmps24
   go_wp2_with fail
   refine(LW s _ (by omega)).mono ?_;rintro e w1 ⟨v,xs,rfl,gp,eZ,hX⟩;obtain⟨a,cap,rfl,Gh,Ct,dF⟩:=eZ.strs;have Gi:=Lib.hid dF;have rv:=Lib.hid gp;have uc:(Nm.split (aw s)).length=xs.length:=by rw[<- gp];simp
   have Cu:=Lib.hid uc;unfold maxLen at Ct;clear dF gp eZ uc
   go_wp2_with fail
   go_loop [4] (fun i=>∃ k:Nat,k<=xs.length/\i=.int .i64 k/\Hid (∀ j,j<k->Nm.ke (Nm.split (aw s)) j=true)) (fun i=>xs.length-(intOf i).toNat)
   case atStart=>exact⟨0,Nat.zero_le _,rfl,(fun j hj=>by omega:∀ j,j<0->Nm.ke (Nm.split (aw s)) j=true)⟩
   case round =>
    obtain⟨k,hk,rfl,I⟩:=hrel;by_cases ai:k<xs.length
    ·obtain⟨x,vp⟩:∃ x,xs[k]?=some x:=⟨_,List.getElem?_eq_getElem ai⟩;obtain⟨b,off,rfl,hc,sV⟩:=Gi.out k x vp;have aN:Nm.ke (Nm.split (aw s)) k=(Nm.label (aw x)||(decide (k=0)&&decide (aw x=[42]))):=by
      rw[<- rv.out];simp[Nm.ke,List.getElem?_map,vp]
     have Cv:=Lib.hid aN;clear aN vp;have zP:(x.toList==[42])=decide (aw x=[42]):=by rw[ByteArray.toList_eq,Bool.eq_iff_iff];simp only[beq_iff_eq,decide_eq_true_eq]
     have L7:=Lib.hid zP;clear zP;cases mi:Nm.label (aw x)
     ·have sW:=Lib.hid mi;clear mi;by_cases h0:0<k
      ·have Gj:Hid (Nm.ke (Nm.split (aw s)) k=false):=by
        have h1:=Cv.out;rw[sW.out,show decide (k=0)=false by simp;omega]at h1;exact h1
       go_wp2_with fail
       refine(zM x _ sV).mono ?_;rintro e w' ⟨rfl,rfl⟩;rw[sW.out]
       go_wp2_with fail
       go_ret
       exact⟨by rw[HV.out,Nm.L4 _ k (by rw[Cu.out];exact ai) Gj.out];rfl,hX⟩
      ·cases aV:(x.toList==[42])
       ·have Gj:Hid (Nm.ke (Nm.split (aw s)) k=false):=by
         have h1:=Cv.out;rw[sW.out,<- L7.out,aV,Bool.and_false]at h1;exact h1
        have aH:(x.toList != [42])=true:=by simp only[bne,aV];rfl
        go_wp2_with fail
        refine(zM x _ sV).mono ?_;rintro e w' ⟨rfl,rfl⟩;rw[sW.out]
        go_wp2_with fail
        go_ret
        exact⟨by rw[HV.out,Nm.L4 _ k (by rw[Cu.out];exact ai) Gj.out];rfl,hX⟩
       ·have Gk:Hid (Nm.ke (Nm.split (aw s)) k=true):=by
         have h1:=Cv.out;rw[sW.out,<- L7.out,aV,show decide (k=0)=true by simp;omega]at h1;exact h1
        have aH:(x.toList != [42])=false:=by simp only[bne,aV];rfl
        go_wp2_with fail
        refine(zM x _ sV).mono ?_;rintro e w' ⟨rfl,rfl⟩;rw[sW.out]
        go_wp2_with fail
        go_round
        case rel=>exact⟨k+1,by omega,by go_num,Nm.zL I.out Gk.out⟩
        case measure=>simp[intOf];omega
     ·have Gk:Hid (Nm.ke (Nm.split (aw s)) k=true):=by
       have h1:=Cv.out;rw[mi]at h1;exact h1
      have sW:=Lib.hid mi;clear mi
      go_wp2_with fail
      refine(zM x _ sV).mono ?_;rintro e w' ⟨rfl,rfl⟩;rw[sW.out]
      go_wp2_with fail
      go_round
      case rel=>exact⟨k+1,by omega,by go_num,Nm.zL I.out Gk.out⟩
      case measure=>simp[intOf];omega
    ·obtain rfl:k=xs.length:=by omega
     go_wp2_with fail
     go_ret
     exact⟨mG (by rw[HV.out,Nm.UA _ (by rw[Cu.out];exact I.out),Cu.out,Bool.eq_iff_iff];simp;try omega),hX⟩
  ·have HV:=Lib.hid (Nm.L5 (aw s) hr (by rw[hlen];omega));clear hr hlen
   go_enter Tryz.func24,Tryz.ntmps24
   go_wp2_with fail
   go_ret
   exact⟨by rw[HV.out];rfl,Ext.refl _⟩
set_option maxHeartbeats 800000 in
theorem L8(s:ByteArray)(w:World)(hs:s.size<=1000) :
  Calls Tryz.prog 47 #[.string s] w (LU (oU Gd 1) (fun xs:List ByteArray=>xs.map aw=Nm.labels (aw s)) w):=by
 by_cases hr:aw s=[46]
 ·have hb:(s.toList==[46])=true:=by rw[ByteArray.toList_eq];simp only[beq_iff_eq];exact hr
  have HR:=Lib.hid hr;clear hr
  go_enter Tryz.func47,Tryz.ntmps47
  go_wp2
  go_ret
  exact⟨_,[],rfl,by simp[Nm.labels,HR.out],oU.LQ (World.ownsRow_nil _ 0 0 1) rfl (fun i x hi=>by simp at hi),Ext.refl _⟩
 ·have hb:(s.toList==[46])=false:=by rw[ByteArray.toList_eq];simp only[beq_eq_false_iff_ne];exact hr
  have HR:=Lib.hid hr;clear hr
  go_enter Tryz.func47,Tryz.ntmps47
  go_wp2_with fail
  refine(LW s _ hs).mono ?_;rintro e w1 ⟨v,xs,rfl,gp,eZ,hX⟩;have rv:=Lib.hid gp;clear gp
  go_wp2_with fail
  go_ret
  exact⟨v,xs,rfl,by show xs.map aw=_;rw[rv.out];simp[Nm.labels,HR.out],eZ,hX⟩
set_option maxHeartbeats 800000 in
theorem UC(s:ByteArray)(w:World)(hs:s.size<=maxLen) :
  Calls Tryz.prog 186 #[.string s] w fun e w'=>e=.returned (.bool (Nm.il (aw s)))/\w=w':=by
 unfold maxLen at hs;by_cases h0:0<s.size
 ·have hh:Nm.il (aw s)=decide ((s[0].toNat:Int)=42):=by
   have e:aw s=s[0]::(aw s).tail:=by
    have hk:0<s.data.toList.length:=by rw[Nm.len];exact h0
    conv=>lhs;rw[show aw s=s.data.toList from rfl,<- List.drop_zero (l:=s.data.toList),List.drop_eq_getElem_cons hk]
    simp[aw];rfl
   rw[e];simp only[Nm.il];rw[Bool.eq_iff_iff];simp only[beq_iff_eq,decide_eq_true_eq];constructor
   ·intro e;rw[e];rfl
   ·intro e;apply UInt8.toNat.inj;show _=42;omega
  have HH:=Lib.hid hh;clear hh
  go_enter Tryz.func186,Tryz.ntmps186
  go_wp2
  go_ret
  exact⟨mG (by rw[HH.out,Bool.eq_iff_iff];simp),rfl⟩
 ·have hh:Nm.il (aw s)=false:=by
   have:aw s=[]:=List.eq_nil_of_length_eq_zero (by rw[Nm.len];omega);rw[this];rfl
  have HH:=Lib.hid hh;clear hh
  go_enter Tryz.func186,Tryz.ntmps186
  go_wp2
  go_ret
  exact⟨by rw[HH.out];rfl,rfl⟩
theorem Nm.Gl(m l:List (List UInt8)):m <:+ l↔m.length<=l.length/\∀ i,i<m.length->l[l.length-m.length+i]?=m[i]? := by
 constructor
 ·rintro⟨p,rfl⟩;refine⟨by simp,fun i hi=>?_⟩;rw[show(p++m).length-m.length+i=p.length+i by simp,List.getElem?_append_right (by omega)]
  congr 1;omega
 ·rintro⟨h1,h2⟩;refine⟨l.take (l.length-m.length),?_⟩;conv=>rhs;rw[<- List.take_append_drop (l.length-m.length) l]
  congr 1
  apply List.ext_getElem?;intro i;rw[List.getElem?_drop];by_cases hi:i<m.length
  ·rw[h2 i hi]
  ·rw[List.getElem?_eq_none (by omega),List.getElem?_eq_none (by omega)]
set_option maxHeartbeats 800000 in
theorem UD(s z:ByteArray)(w:World)(hs:s.size<=1000)(hz:z.size<=1000) :
  Calls Tryz.prog 157 #[.string s,.string z] w fun e w'=>e=.returned (.bool (Nm.under (aw s) (aw z)))/\Ext w w':=by
 go_enter Tryz.func157,Tryz.ntmps157
 go_wp2_with fail
 refine(L8 s _ hs).mono ?_;rintro e w1 ⟨v,xs,rfl,gp,eZ,hX⟩;have rv:=Lib.hid gp;obtain⟨a,cap,rfl,Gh,Ct,dF⟩:=eZ.strs
 go_wp2_with fail
 refine(L8 z _ hz).mono ?_;rintro e w2 ⟨v2,zs,rfl,L9,Ma,Mb⟩;have zQ:=Lib.hid L9;obtain⟨a2,adh,rfl,adi,UE,Mc⟩:=Ma.strs;have Gi:=Lib.hid dF;have UF:=Lib.hid Mc;unfold maxLen at Ct UE;clear dF Mc gp L9 eZ Ma;have Gm:=hX.trans Mb;by_cases hle:zs.length<=xs.length
 ·go_wp2_with fail
  go_loopw [7] (fun i wr=>∃ k:Nat,k<=zs.length/\i=.int .i64 k/\Ext w2 wr/\Hid (∀ j,j<k->xs[xs.length-zs.length+j]?=zs[j]?)) (fun i _=>zs.length-(intOf i).toNat)
  case atStart=>exact⟨0,Nat.zero_le _,rfl,Ext.refl _,(fun j hj=>by omega:∀ j,j<0->xs[xs.length-zs.length+j]?=zs[j]?)⟩
  case round =>
   obtain⟨k,hk,rfl,hx,I⟩:=hrel;by_cases ai:k<zs.length
   ·obtain⟨x,vp⟩:∃ x,xs[xs.length-zs.length+k]?=some x:=⟨_,List.getElem?_eq_getElem (by omega)⟩;obtain⟨y,Gn⟩:∃ y,zs[k]?=some y:=⟨_,List.getElem?_eq_getElem ai⟩;obtain⟨b,off,rfl,hc,sV⟩:=Gi.out _ x vp;obtain⟨b2,adj,rfl,Co,hym⟩:=UF.out _ y Gn;have ss:=hx.keep (Mb.keep hc);have adl:=hx.keep Co;have i1:(0:Int)<=(xs.length:Int)-(zs.length:Int)+(k:Int):=by omega
    have i2:(xs.length:Int)-(zs.length:Int)+(k:Int)<(xs.length:Int):=by omega
    have i3:((xs.length:Int)-(zs.length:Int)+(k:Int)).toNat=xs.length-zs.length+k:=by omega
    have i4:IntKind.i64.wrap ((xs.length:Int)-(zs.length:Int))=(xs.length:Int)-(zs.length:Int):=IntWalk.i64_in _ (by omega);have i5:IntKind.i64.wrap ((xs.length:Int)-(zs.length:Int)+(k:Int))=(xs.length:Int)-(zs.length:Int)+(k:Int):=IntWalk.i64_in _ (by omega);have HX:=Lib.hid vp;have HY:=Lib.hid Gn;clear vp Gn hc Co;have i6:(0:Int)<=(k:Int):=by omega
    have i7:(k:Int)<(zs.length:Int):=by omega
    go_wp2_with fail
    go_quiet (fail)
    clear i1 i2 i3 i4 i5 i6 i7
    go_wp2_with fail
    ·have aH:¬ (aw x=aw y):=by
      have h:(!x.toList==y.toList)=true:=by assumption
      rw[zO]at h;simpa using h
     go_ret
     refine⟨mG ?_,Gm.trans (hx.drewN _)⟩;symm;simp only[Nm.under,decide_eq_false_iff_not,Nm.Gl];rintro⟨_,h⟩;have zR:(Nm.labels (aw s)).length=xs.length:=by rw[<- rv.out];simp
     have Cw:(Nm.labels (aw z)).length=zs.length:=by rw[<- zQ.out];simp
     have:=h k (by rw[Cw];exact ai);rw[zR,Cw,<- rv.out,<- zQ.out,List.getElem?_map,List.getElem?_map,HX.out,HY.out]at this;simp at this;exact aH (by rw[show aw x=x.data.toList from rfl,this])
    ·have heq:aw x=aw y:=by
      have h:(!x.toList==y.toList)=false:=by assumption
      rw[zO]at h;simpa using h
     refine⟨⟨k+1,by omega,by go_num,hx.drewN _,(fun j hj=>?_:∀ j,j<k+1->xs[xs.length-zs.length+j]?=zs[j]?)⟩,by simp[intOf];omega⟩;by_cases e:j=k
     ·subst e;rw[HX.out,HY.out,zN heq]
     ·exact I.out j (by omega)
   ·obtain rfl:k=zs.length:=by omega
    go_wp2_with fail
    go_ret
    refine⟨mG ?_,Gm.trans hx⟩;symm;simp only[Nm.under,decide_eq_true_eq,Nm.Gl];have zR:(Nm.labels (aw s)).length=xs.length:=by rw[<- rv.out];simp
    have Cw:(Nm.labels (aw z)).length=zs.length:=by rw[<- zQ.out];simp
    refine⟨by omega,fun i hi=>?_⟩;rw[zR,Cw,<- rv.out,<- zQ.out,List.getElem?_map,List.getElem?_map,I.out i (by omega)]
 ·go_wp2_with fail
  go_ret
  refine⟨mG ?_,Gm⟩;symm;simp only[Nm.under,decide_eq_false_iff_not,Nm.Gl];rintro⟨h,_⟩;rw[<- rv.out,<- zQ.out]at h;simp at h;omega
theorem Nm.UG(l:List UInt8)(h:Nm.valid l=true):l.length<=60:=by
 simp only[Nm.valid,Bool.or_eq_true,decide_eq_true_eq,Bool.and_eq_true]at h;rcases h with h|h
 ·rw[h];simp
 ·exact h.1
theorem Nm.xf(s:ByteArray)(h:Nm.valid (aw s)=true):s.size<=60:=by
 have:=Nm.UG _ h
 rwa [show(aw s).length=s.size from Nm.len s]at this
def Nm.nb(s z:List UInt8):Bool:=Nm.valid s&&Nm.valid z&&Nm.under s z
theorem Nm.toNat_eq(c d:UInt8):((c.toNat:Int)=(d.toNat:Int))↔c=d:=by
 constructor
 ·intro e;apply UInt8.toNat.inj;omega
 ·intro e;rw[e]
set_option maxHeartbeats 1000000 in
theorem Gp(s:ByteArray)(w:World) :
  Calls Tryz.prog 112 #[.string s] w fun e w'=>e=.returned (.bool (Nm.label (aw s)))/\w=w':=by
 have hlen:=Nm.len s;have pT:Hid ((aw s).length=s.size):=hlen;clear hlen;by_cases hz:1<=s.size/\s.size<=12
 ·obtain⟨z1,z2⟩:=hz;have p0:0<s.size:=by omega
  have p1:s.size-1<s.size:=by omega
  have e0:((s[0]'p0).toNat:Int)=45->false=Nm.label (aw s):=fun h=>by
   refine Nm.Cr _ 0 (by rw[pT.out];omega) (fun g=>?_);have:=(Nm.Cq s 0 (by omega)).1 g;omega
  have e1:((s[s.size-1]'p1).toNat:Int)=45->false=Nm.label (aw s):=fun h=>by
   refine Nm.Cr _ (s.size-1) (by rw[pT.out];omega) (fun g=>?_);have:=(Nm.Cq s (s.size-1) (by omega)).1 g;omega
  have E0:=Lib.hid e0;have E1:=Lib.hid e1;clear e0 e1;by_cases h0:((s[0]'p0).toNat:Int)=45
  ·have hb:(((s[0]'p0).toNat:Int)==45)=true:=by simp[h0]
   have F:=Lib.hid (E0.out h0);clear h0
   go_enter Tryz.func112,Tryz.ntmps112
   go_wp2
   go_ret
   exact⟨mG F.out,rfl⟩
  ·have hb:(((s[0]'p0).toNat:Int)==45)=false:=by simp[h0]
   by_cases h1:((s[s.size-1]'p1).toNat:Int)=45
   ·have iO:(((s[s.size-1]'p1).toNat:Int)==45)=true:=by simp[h1]
    have F:=Lib.hid (E1.out h1);clear h1 h0
    go_enter Tryz.func112,Tryz.ntmps112
    go_wp2
    go_ret
    exact⟨mG F.out,rfl⟩
   ·have iO:(((s[s.size-1]'p1).toNat:Int)==45)=false:=by simp[h1]
    have H0:=Lib.hid h0;have H1:=Lib.hid h1;clear h0 h1
    go_enter Tryz.func112,Tryz.ntmps112
    go_wp2
    go_loop [28] (fun i=>∃ k:Nat,k<=s.size/\i=.int .i64 k/\Hid (∀ j,j<k->Nm.nU (aw s) j=true)) (fun i=>s.size-(intOf i).toNat)
    case atStart=>exact⟨0,Nat.zero_le _,rfl,(fun j hj=>by omega:∀ j,j<0->Nm.nU (aw s) j=true)⟩
    case round =>
     obtain⟨k,hk,rfl,I⟩:=hrel;clear hb iO;by_cases ai:k<s.size
     ·have HL:Hid (Nm.nU (aw s) k=true↔_):=Nm.Cq s k ai;have UH:Hid (((s[k]'ai).toNat:Int)=45->0<k/\k+1<s.size):=fun h=>by
       refine⟨?_,?_⟩
       ·rcases Nat.eq_zero_or_pos k with rfl|h'
        ·exact absurd h H0.out
        ·exact h'
       ·rcases Nat.lt_or_ge (k+1) s.size with h'|h'
        ·exact h'
        ·obtain rfl:k=s.size-1:=by omega
         exact absurd h H1.out
      by_cases hc:((s[k]'ai).toNat:Int)=45
      ·have aH:(((s[k]'ai).toNat:Int) != 45)=false:=by simp[hc]
       have HC:=Lib.hid hc;clear hc
       go_wp2
       all_goals
        refine⟨⟨k+1,by omega,by go_num,?_⟩,by simp[intOf];omega⟩;have UI:=UH.out HC.out;exact Nm.zL I.out (HL.out.2 (.inr (.inr ⟨HC.out,UI⟩)))
      ·have aH:(((s[k]'ai).toNat:Int) != 45)=true:=by simp[hc]
       have HC:=Lib.hid hc;clear hc
       go_wp2
       all_goals first
        |(exfalso;omega)
        |(refine⟨⟨k+1, by omega, by go_num, ?_⟩, by simp[intOf];omega⟩
          exact Nm.zL I.out (HL.out.2 (by omega)))
        |(have hc := HC.out
          go_ret
          exact⟨mG (Nm.Cr (aw s) k (by rw[pT.out];exact ai) (fun h => absurd (HL.out.1 h) (by omega))), rfl⟩)
     ·obtain rfl:k=s.size:=by omega
      go_wp2
      go_ret
      exact⟨mG (by rw[Nm.LO (aw s) (by rw[pT.out];exact I.out),pT.out];simp;omega),rfl⟩
 ·have F:Hid (false=Nm.label (aw s)):=by
   show false=Nm.label (aw s);symm;simp only[Nm.label,decide_eq_false_iff_not];rintro⟨g1,g2,_⟩;rw[pT.out]at g1 g2;omega
  go_enter Tryz.func112,Tryz.ntmps112
  go_wp2
  all_goals first
   |(exfalso;omega)
   |(go_ret
     exact⟨mG F.out, rfl⟩)
def Nm.Gq(s:ByteArray)(c:UInt8)(r:Int):Prop := -1<=r/\r<s.size/\(∀ (h:r.toNat<s.size),0<=r->s[r.toNat]'h=c)/\∀ (j:Nat) (h:j<s.size),r<j->s[j]'h≠c
def Md(s:ByteArray)(c:UInt8)(w:World)(e:Ending)(w':World):Prop:=∃ r:Int,e=.returned (.int .i64 r)/\Nm.Gq s c r/\w=w'
set_option maxHeartbeats 800000 in
theorem UJ(s:ByteArray)(c:UInt8)(w:World)(hs:s.size<=maxLen) :
  Calls Tryz.prog 219 #[.string s,.int .u8 c.toNat] w (Md s c w):=by
 unfold maxLen at hs
 go_enter Tryz.func219,Tryz.ntmps219
 go_wp2
 go_loop [5] (fun i=>∃ k:Int,-1<=k/\k<s.size/\i=.int .i64 k/\Hid (∀ (j:Nat) (h:j<s.size),k<j->s[j]'h≠c)) (fun i=>((intOf i)+1).toNat)
 case atStart=>exact⟨_,by omega,by omega,rfl,(fun j h hj=>by omega:∀ (j:Nat) (h:j<s.size),(s.size:Int)-1<j->s[j]'h≠c)⟩
 case round =>
  obtain⟨k,dU,pV,rfl,I⟩:=hrel;by_cases h0:0<=k
  ·obtain⟨m,rfl⟩:=Int.eq_ofNat_of_zero_le h0;have hm:m<s.size:=by omega
   by_cases hc:s[m]'hm=c
   ·have hb:(((s[m]'hm).toNat:Int)==(c.toNat:Int))=true:=by rw[hc];simp
    have HC:=Lib.hid hc;clear hc
    go_wp2
    go_ret
    exact⟨_,rfl,⟨by omega,by omega,fun _ _=>HC.out,I.out⟩,rfl⟩
   ·have hb:(((s[m]'hm).toNat:Int)==(c.toNat:Int))=false:=by simp only[beq_eq_false_iff_ne,ne_eq,Nm.toNat_eq];exact hc
    have HC:=Lib.hid hc;clear hc
    go_wp2
    go_round
    case rel =>
     refine⟨(m:Int)-1,by omega,by omega,rfl,(fun j h hj=>?_:∀ (j:Nat) (h:j<s.size),(m:Int)-1<j->s[j]'h≠c)⟩;by_cases e:j=m
     ·subst e;exact HC.out
     ·exact I.out j h (by omega)
    case measure=>simp[intOf]
  ·obtain rfl:k = -1:=by omega
   go_wp2
   go_ret
   exact⟨-1,rfl,⟨by omega,by omega,(fun _ h=>by omega),I.out⟩,rfl⟩
set_option maxHeartbeats 400000 in
theorem Me(s:ByteArray)(c:UInt8)(w:World)(hs:s.size<=maxLen) :
  Calls Tryz.prog 171 #[.string s,.int .u8 c.toNat] w (Md s c w):=by
 go_enter Tryz.func171,Tryz.ntmps171
 go_wp2_with fail
 refine(UJ s c _ hs).mono ?_;rintro e w' ⟨r,rfl,hr,rfl⟩;have HR:=Lib.hid hr;clear hr
 go_wp2_with fail
 go_ret
 exact⟨r,rfl,HR.out,rfl⟩
theorem Nm.Cy(s:ByteArray)(n:Nat):aw (s.extract 0 n)=(aw s).take n:=by
 show(s.extract 0 n).data.toList=_;rw[ByteArray.data_extract,Array.toList_extract,List.extract_eq_take_drop];simp
theorem Nm.Cz(s:ByteArray)(n:Nat):aw (s.extract n s.size)=(aw s).drop n:=by
 show(s.extract n s.size).data.toList=_;rw[ByteArray.data_extract,Array.toList_extract,List.extract_eq_take_drop,List.take_of_length_le];rw[List.length_drop,Nm.len];exact Nat.le_refl _
set_option maxHeartbeats 400000 in
theorem UK(s p:ByteArray)(w:World)(hs:s.size<=maxLen)(eM:p.size<=maxLen) :
  Calls Tryz.prog 208 #[.string s,.string p] w fun e w'=>e=.returned (.bool (decide (aw p <:+ aw s)))/\w=w':=by
 unfold maxLen at hs eM;by_cases hp:p.size<=s.size
 ·have hh:((s.extract (s.size-p.size) s.size).toList==p.toList)=decide (aw p <:+ aw s):=by
   rw[zO,Nm.Cz,Bool.eq_iff_iff];simp only[decide_eq_true_eq];rw[List.suffix_iff_eq_drop,show(aw p).length=p.size from Nm.len p,show(aw s).length=s.size from Nm.len s];exact eq_comm
  have HH:=Lib.hid hh;clear hh
  go_enter Tryz.func208,Tryz.ntmps208
  go_wp2
  go_ret
  exact⟨mG HH.out,rfl⟩
 ·have hh:decide (aw p <:+ aw s)=false:=by
   simp only[decide_eq_false_iff_not];intro h;have:=h.length_le;rw[show(aw p).length=p.size from Nm.len p,show(aw s).length=s.size from Nm.len s]at this;omega
  have HH:=Lib.hid hh;clear hh
  go_enter Tryz.func208,Tryz.ntmps208
  go_wp2
  go_ret
  exact⟨by rw[HH.out];rfl,rfl⟩
set_option maxHeartbeats 400000 in
theorem Mf(s p:ByteArray)(w:World)(hs:s.size<=maxLen)(eM:p.size<=maxLen) :
  Calls Tryz.prog 141 #[.string s,.string p] w fun e w'=>e=.returned (.bool (decide (aw p <:+ aw s)))/\w=w':=by
 generalize hd:decide (aw p <:+ aw s)=d;have HD:=Lib.hid hd;clear hd
 go_enter Tryz.func141,Tryz.ntmps141
 go_wp2_with fail
 refine(UK s p _ hs eM).mono ?_;rintro e w' ⟨rfl,rfl⟩;rw[HD.out]
 go_wp2_with fail
 go_ret
 exact⟨rfl,rfl⟩
end Go.Proofs.YtcmnpelmmekdkaaGreatDoor
end
section
namespace Go.Proofs.YtcmnpelmmekdkaaGreatDoor
open Go.RowKit Go.Shelf
variable {F:Fence} {n:Nat} {P:Program}
def Mg{α:Type}(F:Fence)(n:Nat)(P:Program)(g:Nat)(fb lb:Array Value)(xg:α->Array Value)(Kp:World->World->Prop)(S Sp:List α->Prop)(N:Nat)(w:World):Prop :=
 ∀ (l:Nat) (J Jx:List α->World->Prop) (W:World),Below w.heap.size w W->AbidesFrom W.heap.size J->AbidesFrom W.heap.size Jx ->
  (∀ pre x W1,J pre W1->pre.length<N->YieldAt F (n-1) P l (xg x) W1 fun e W' =>
   (e=.returned (.bool true)/\J (pre++[x]) W'/\Kp W1 W')\/(e=.returned (.bool false)/\Jx (pre++[x]) W')) ->
  J [] W ->
  CallsIn F n P g (fb ++ #[.func (.yield l) #[] #[]]++lb) W fun e W'=>(∃ v,e=.returned v)/\((∃ xs,S xs/\J xs W')\/(∃ pre,Sp pre/\Jx pre W'))
theorem Gr{α:Type}{g:Operand}{ps:Array Tmp}{assign body:Code}{Q:Exit->Act->World->Prop}{a:Act}{w:World}
  (Gs:F.round=none) (h1:1<=n) {gf:Nat} {fb lb:Array Value} (hg:a.eval g=.func (.func gf) fb lb) (UL:F.fn gf) (eg:∀ args w,(callFunc gf args).run P w=.ok (.enter gf args) w)
  {xg:α->Array Value} {Kp:World->World->Prop} {S Sp:List α->Prop} {N:Nat} {w0:World} (UM:Mg F (n-1) P gf fb lb xg Kp S Sp N w0)
  (Mh:∀ {A B C:World},Kp A B->Kp B C->Kp A C) (Mi:∀ (W:World) (l:Nat) (o o':Obj),w.heap.size<=l->W.heap[l]?=some o->o.isCells=false->o.isWalk=false->Kp W (W.putObj l o')) (iA:Below w0.heap.size w0 w) (eM:∀ x,(xg x).size=ps.size)
  (I:List α->World->Prop) (Ix:Code->List α->World->Prop) (hI:OwnFrom w.heap.size I) (Gt:∀ c,OwnFrom w.heap.size (Ix c)) (h0:I [] w) (Mj : α->Act)
  (UN:∀ (l:Nat) (x:α) (W:World) (K:Act->World->Prop),K (Mj x) W ->
   assign.wpIn (F.inRound l) (n-1-1) P (Exit.then K (fun _ _ _=>False)) { tmps:=(ps.zip (xg x)).foldl (fun t (p,v)=>t.setIfInBounds p v) a.tmps,defers:=[] } W)
  (UO:∀ (l:Nat) (pre:List α) (x:α) (W:World),I pre W->pre.length<N->body.wpIn (F.inRound l) (n-1-1) P (ownPostK Kp I Ix (pre++[x]) W) (Mj x) W)
  (UP:∀ (D:Nat) (xs:List α) (W:World),w.heap.size<=D->S xs->I xs W->W.heap[D]?=some (.deferred (some []))->Q .normal { a with defers:={ target := .collected D,args := #[] }::a.defers } W)
  (UQ:∀ (D:Nat) (c:Code) (pre:List α) (W:World),w.heap.size<=D->Sp pre->Ix c pre W->W.heap[D]?=some (.deferred (some []))->c.wpIn F n P Q { a with defers:={ target := .collected D,args := #[] }::a.defers } W) :
  (Code.rangeFunc g ps assign body).wpIn F n P Q a w:=by
 refine wpIn_rangeFunc fun fn yP=>?_;rw[Gs]
 let Gu:LoopState->Option Code->Loop:=fun st pe=>{ state:=st,pending:=pe,fn,tmps:=a.tmps,params:=ps,assign,body,defers:=w.heap.size }
 have pW:∀ st pe,Gu st pe={ state:=st,pending:=pe,fn,tmps:=a.tmps,params:=ps,assign,body,defers:=w.heap.size }:=fun _ _=>rfl;generalize Gu=rc at pW;clear Gu;obtain⟨W1,xh⟩:∃ W1,(w.alloc (.deferred (some []))).alloc (.loop (rc .ready none))=W1:=⟨_,rfl⟩;have jy:W1.heap[w.heap.size+1]?=some (.loop (rc .ready none)):=by
  have:=World.alloc_heap_new (w.alloc (.deferred (some []))) (.loop (rc .ready none));rw[World.size_alloc]at this;rw[<- xh];exact this
 have UR:W1.heap[w.heap.size]?=some (.deferred (some [])):=by
  rw[<- xh];exact(Below.heap_alloc _ _ _ (by simp)).trans (World.alloc_heap_new w _)
 have adm:W1.heap.size=w.heap.size+1+1:=by rw[<- xh];simp
 have US:I [] W1:=by rw[<- xh];exact hI.alloc _ (hI.alloc _ h0)
 have CA:Below w0.heap.size w0 W1:=by
  rw[<- xh];exact iA.trans ((((Below.refl _ w).alloc (Nat.le_refl _) _).alloc (by simp) _).mono iA.size)
 refine⟨w.heap.size+1,[{ target := .collected w.heap.size,args := #[] }],W1,{ target := .fn (.func gf) lb,args:=fb ++ #[.func (.yield (w.heap.size+1)) #[] #[]] },W1,gf,
  fb ++ #[.func (.yield (w.heap.size+1)) #[] #[]]++lb,W1,?_,?_,?_,?_,fun _=>h1,?_⟩
 ·rw[<- xh,pW];exact run_enterLoop_outer _ _ _ _ _
 ·simp only[resolve,hg];simp[go_sem]
 ·intro f' wo;simp[Target.leads]at wo;subst wo;exact UL
 ·simp[invoke,go_sem,eg]
 have Mk:∀ {A:World} {row:Option Nat},(∀ r,row=some r->W1.heap.size<=r/\∃ o:Obj,A.heap[r]?=some o/\o.isWalk=true)->∀ r,row=some r->w.heap.size<=r/\∃ o:Obj,A.heap[r]?=some o/\o.isCells=false :=
  fun hr r e=>by obtain⟨hB,o,ho,hw⟩:=hr r e;exact⟨by omega,o,ho,Obj.not_cells_of_walk hw⟩
 refine(UM (w.heap.size+1)
  (fun pre W=>I pre W/\W.heap[w.heap.size+1]?=some (.loop (rc .ready none))/\W.heap[w.heap.size]?=some (.deferred (some [])))
  (fun pre W=>∃ c,Ix c pre W/\W.heap[w.heap.size+1]?=some (.loop (rc .done (some c)))/\W.heap[w.heap.size]?=some (.deferred (some [])))
  W1 CA
  (fun s A B row hs mV hr=>⟨hI s A B row hs.1 mV (Mk hr),(grownBy_keeps mV (fun r e=>(hr r e).2) hs.2.1 rfl).trans hs.2.1,(grownBy_keeps mV (fun r e=>(hr r e).2) hs.2.2 rfl).trans hs.2.2⟩)
  (fun s A B row ⟨c,hc,hl,hk⟩ mV hr=>⟨c,Gt c s A B row hc mV (Mk hr),(grownBy_keeps mV (fun r e=>(hr r e).2) hl rfl).trans hl,(grownBy_keeps mV (fun r e=>(hr r e).2) hk rfl).trans hk⟩)
  ?round ⟨US,jy,UR⟩).mono ?behind
 case round =>
  rintro pre x W ⟨hi,hl,hk⟩ hlen;have ai:w.heap.size+1<W.heap.size:=(Array.getElem?_eq_some_iff.1 hl).1;have hy:=run_yield (P:=P) (args:=xg x) hl (by rw[pW];exact eM x);rw[pW]at hy;refine⟨fn,_,assign,body,hy,roundIn_of_wpIn yP (UN _ x W _ ⟨_,run_beginRound hl (by rw[pW]),?_⟩)⟩;generalize UT:({ rc .ready none with state := .busy }:Loop)=bz;have se:(W.putObj (w.heap.size+1) (.loop bz)).heap[w.heap.size+1]?=some (.loop bz):=World.putObj_heap_same ai;have pV:(W.putObj (w.heap.size+1) (.loop bz)).heap[w.heap.size]?=some (.deferred (some [])):=(World.putObj_heap_other (by omega)).trans hk;have Gv:Kp W (W.putObj (w.heap.size+1) (.loop bz)):=Mi _ _ _ _ (by omega) hl rfl rfl;refine wpIn_mono (UO _ pre x _ (hI.putObj _ hi (by omega) hl rfl) hlen) ?_;have fin:∀ (jump:Option Code) (W3:World),KeepsOthers (W.putObj (w.heap.size+1) (.loop bz)) W3 ->
    (Instr.endRound (w.heap.size+1) jump).run P W3=.ok (.bool jump.isNone) (W3.putObj (w.heap.size+1) (.loop (rc (if jump.isNone then .ready else .done) jump))) /\
    W3.heap[w.heap.size+1]?=some (.loop bz) /\
    (W3.putObj (w.heap.size+1) (.loop (rc (if jump.isNone then .ready else .done) jump))).heap[w.heap.size+1]?=some (.loop (rc (if jump.isNone then .ready else .done) jump)) /\
    (W3.putObj (w.heap.size+1) (.loop (rc (if jump.isNone then .ready else .done) jump))).heap[w.heap.size]?=some (.deferred (some [])):=fun jump W3 xi=>by
   have ry:=xi.same _ _ se rfl;have cV:=run_endRound (P:=P) jump (by rw[<- UT]at ry;exact ry);rw[pW]at cV ⊢;exact⟨cV,ry,World.putObj_heap_same (Array.getElem?_eq_some_iff.1 ry).1,(World.putObj_heap_other (by omega)).trans (xi.same _ _ pV rfl)⟩
  have leave:∀ (c:Code) (W3:World),KeepsOthers (W.putObj (w.heap.size+1) (.loop bz)) W3->Ix c (pre++[x]) W3->∃ v W4,(Instr.endRound (w.heap.size+1) (some c)).run P W3=.ok v W4 /\
    v=.bool false/\∃ c',Ix c' (pre++[x]) W4/\W4.heap[w.heap.size+1]?=some (.loop (rc .done (some c')))/\W4.heap[w.heap.size]?=some (.deferred (some [])):=fun c W3 xi Gw=>by
   obtain⟨hr,ry,Gx,Gy⟩:=fin (some c) W3 xi;exact⟨_,_,hr,rfl,c,(Gt c).putObj _ Gw (by omega) ry rfl,Gx,Gy⟩
  rintro e a3 W3 hp;cases e with
  |normal =>
   obtain⟨xi,UU,Gw⟩:=hp;obtain⟨hr,ry,Gx,Gy⟩:=fin none W3 xi;exact⟨_,_,hr,.inl ⟨rfl,⟨hI.putObj _ Gw (by omega) ry rfl,Gx,Gy⟩,Mh (Mh Gv UU) (Mi _ _ _ _ (by omega) ry rfl rfl)⟩⟩
  |ret=>obtain⟨v,W4,hr,rfl,c,h⟩:=leave .ret W3 hp.1 hp.2;exact⟨_,W4,hr,.inr ⟨rfl,c,h⟩⟩
  |exit id=>obtain⟨v,W4,hr,rfl,c,h⟩:=leave (.exit id) W3 hp.1 hp.2;exact⟨_,W4,hr,.inr ⟨rfl,c,h⟩⟩
  |goto t=>obtain⟨v,W4,hr,rfl,c,h⟩:=leave (.goto t) W3 hp.1 hp.2;exact⟨_,W4,hr,.inr ⟨rfl,c,h⟩⟩
  |panic ch=>exact hp.elim
  |outgrown=>exact hp.elim
 case behind =>
  rintro e W2 ⟨⟨v,rfl⟩,(⟨xs,hS,hi,hl,hk⟩|⟨pre,UW,c,hi,hl,hk⟩)⟩
  ·exact⟨none,_,by have:=run_endLoop (P:=P) hl (by rw[pW];simp);rw[pW]at this;exact this,UP _ xs _ (Nat.le_refl _) hS (hI.putObj _ hi (by omega) hl rfl) ((World.putObj_heap_other (by omega)).trans hk)⟩
  ·exact⟨some c,_,by have:=run_endLoop (P:=P) hl (by rw[pW];simp);rw[pW]at this;exact this,UQ _ c pre _ (Nat.le_refl _) UW ((Gt c).putObj _ hi (by omega) hl rfl) ((World.putObj_heap_other (by omega)).trans hk)⟩
end Go.Proofs.YtcmnpelmmekdkaaGreatDoor
end
section
namespace Go.Proofs.YtcmnpelmmekdkaaGreatDoor
open Go.RowKit Go.Shelf
attribute [local go_sem] Oper.semAt_some
def bs(l:List UInt8):ByteArray:=⟨l.toArray⟩
theorem zS(l:List UInt8):aw (bs l)=l:=by simp[aw,bs]
theorem xj(s:ByteArray):bs (aw s)=s:=zN (zS _)
def Nm.back(s:ByteArray):List ByteArray:=(Nm.labels (aw s)).reverse.map bs
def Ml:Value->Nat
 | .string s=>s.size
 |_=>0
def Nm.UX(s:ByteArray)(xs:List ByteArray):Prop:=xs=Nm.back s
def Nm.UY(s:ByteArray)(xs:List ByteArray):Prop:=xs <+: Nm.back s
theorem Nm.Mm(r:ByteArray)(h:Nm.Gq r 46 (-1)):46 ∉ aw r:=by
 intro hm;obtain⟨j,hj,e⟩:=List.getElem_of_mem hm;have dI:j<r.size:=by rw[show(aw r).length=r.size from Nm.len r]at hj;exact hj
 exact h.2.2.2 j dI (by omega) e
theorem Nm.Mn(r:ByteArray)(m:Nat)(h:Nm.Gq r 46 m):Nm.split (aw r)=Nm.split ((aw r).take m)++[(aw r).drop (m+1)]:=by
 obtain⟨_,h2,h3,h4⟩:=h;have hm:m<r.size:=by omega
 have hl:(aw r).length=r.size:=Nm.len r;have e:(aw r)[m]'(by omega)=46:=h3 (by simpa using hm) (by omega);have hd:(aw r).drop m=46::(aw r).drop (m+1):=by rw[List.drop_eq_getElem_cons (by omega),e]
 have dE:46 ∉ (aw r).drop (m+1):=by
  intro im;obtain⟨j,hj,e⟩:=List.getElem_of_mem im;rw[List.getElem_drop]at e;rw[List.length_drop]at hj;exact h4 (m+1+j) (by omega) (by omega) e
 conv=>lhs;rw[<- List.take_append_drop m (aw r),hd]
 rw[Nm.Cp,Nm.zK _ dE]
set_option maxRecDepth 100000 in
set_option maxHeartbeats 1000000 in
theorem Gz(n:Nat)(hn:1<=n)(s:ByteArray)(hs:s.size<=maxLen)(w:World) :
  Mg Fence.wide n Tryz.prog 111 #[.string s] #[] (fun x:ByteArray => #[.string x]) (fun _ _=>True) (Nm.UX s) (Nm.UY s) (Nm.back s).length w:=by
 intro l J Jx W hB hJ hJx hY h0;unfold maxLen at hs;refine callsIn_of_wp Tryz.func111 rfl trivial ?_ rfl;simp only[Tryz.ntmps111,List.size_toArray,List.length_cons,List.length_nil,Nat.reduceAdd,Nat.reduceSub,Array.replicate_succ,Array.replicate_zero,List.push_toArray,List.append_toArray,List.nil_append,List.cons_append];by_cases hr:aw s=[46]
 ·have hb:(s.toList==[46])=true:=by rw[ByteArray.toList_eq];simp only[beq_iff_eq];exact hr
  have HB:Hid (Nm.back s=[]):=by show Nm.back s=[];simp[Nm.back,Nm.labels,hr]
  have HY:=Lib.hid hY;clear hY hr
  gi_wp2
  refine bodyPost_ret (results_none rfl _ _ _) rfl ?_;exact⟨⟨_,rfl⟩,.inl ⟨[],HB.out.symm,h0⟩⟩
 ·have hb:(s.toList==[46])=false:=by rw[ByteArray.toList_eq];simp only[beq_eq_false_iff_ne];exact hr
  have HB:Hid (Nm.back s=(Nm.split (aw s)).reverse.map bs):=by show Nm.back s=_;simp[Nm.back,Nm.labels,hr]
  have HY:=Lib.hid hY;clear hY hr
  gi_wp2_with fail
  gi_loopw [4] (fun v wr=>∃ (pre:List ByteArray) (r:ByteArray),v=.string r/\r.size<=s.size/\J pre wr/\Hid (pre++(Nm.split (aw r)).reverse.map bs=Nm.back s)) (fun v _=>Ml v)
  case atStart=>exact⟨[],s,rfl,Nat.le_refl _,h0,(by rw[HB.out];rfl:[]++(Nm.split (aw s)).reverse.map bs=Nm.back s)⟩
  case round =>
   obtain⟨pre,r,rfl,J2,Mo,I⟩:=hrel
   gi_wp2_with fail
   refine⟨trivial,?_⟩;refine(callsIn_wide.2 (Me r 46 _ (by unfold maxLen;omega))).mono ?_;rintro e w' ⟨i,rfl,hi,rfl⟩;have HI:=Lib.hid hi;obtain⟨jb,lH,_,_⟩:=hi;by_cases GA:0<=i
   ·obtain⟨m,rfl⟩:=Int.eq_ofNat_of_zero_le GA;have gp:=Nm.Mn r m HI.out;have hlen:pre.length<(Nm.back s).length:=by
     rw[<- I.out,gp];simp
    obtain⟨fn,tmps,assign,body,hy,hR⟩:=HY.out pre (r.extract (m+1) r.size) wr Mo hlen;have HS:=Lib.hid gp;have HR:=Lib.hid hR;clear gp hR
    gi_wp2_with fail
    refine HR.out.mono ?_;rintro e W3 (⟨rfl,GB,_⟩|⟨rfl,GC⟩)
    ·gi_wp2_with fail
     go_roundw
     case rel =>
      refine⟨pre++[r.extract (m+1) r.size],r.extract 0 m,rfl,by rw[ByteArray.size_extract];omega,GB,?_⟩;show pre++[r.extract (m+1) r.size]++(Nm.split (aw (r.extract 0 m))).reverse.map bs=Nm.back s;rw[<- I.out,HS.out,Nm.Cy];simp only[List.reverse_append,List.reverse_cons,List.reverse_nil,List.nil_append,List.map_cons,List.append_assoc,List.cons_append];rw[<- Nm.Cz,xj]
     case measure=>simp only[Ml,ByteArray.size_extract];omega
    ·gi_wp2_with fail
     refine bodyPost_ret (results_none rfl _ _ _) rfl ?_;refine⟨⟨_,rfl⟩,.inr ⟨pre++[r.extract (m+1) r.size],?_,GC⟩⟩;refine⟨(Nm.split ((aw r).take m)).reverse.map bs,?_⟩;rw[<- I.out,HS.out];simp only[List.reverse_append,List.reverse_cons,List.reverse_nil,List.nil_append,List.map_cons,List.append_assoc,List.cons_append];rw[<- Nm.Cz,xj]
   ·obtain rfl:i = -1:=by omega
    have gp:Nm.split (aw r)=[aw r]:=Nm.zK _ (Nm.Mm r HI.out);have hlen:pre.length<(Nm.back s).length:=by
     rw[<- I.out,gp];simp
    have hx:r.extract 0 r.size=r:=zN (by rw[Nm.Cy,List.take_of_length_le (Nat.le_of_eq (Nm.len r))]);obtain⟨fn,tmps,assign,body,hy,hR⟩:=HY.out pre r wr Mo hlen;have HS:=Lib.hid gp;have HR:=Lib.hid hR;clear gp hR
    gi_wp2_with fail
    refine HR.out.mono ?_;rintro e W3 (⟨rfl,GB,_⟩|⟨rfl,GC⟩)
    ·gi_wp2_with fail
     refine bodyPost_ret (results_none rfl _ _ _) rfl ?_;refine⟨⟨_,rfl⟩,.inl ⟨pre++[r],?_,GB⟩⟩;show pre++[r]=Nm.back s;rw[<- I.out,HS.out];simp[xj]
    ·gi_wp2_with fail
     refine bodyPost_ret (results_none rfl _ _ _) rfl ?_;refine⟨⟨_,rfl⟩,.inr ⟨pre++[r],?_,GC⟩⟩;refine⟨[],?_⟩;rw[<- I.out,HS.out];simp[xj]
end Go.Proofs.YtcmnpelmmekdkaaGreatDoor
end
section
namespace Go.Proofs.YtcmnpelmmekdkaaGreatDoor
open Go.RowKit Go.Shelf
attribute [local go_sem] Oper.semAt_some
def Nm.Good(tot:Nat)(X:List ByteArray):Prop:=X.length<=8/\∀ i x,X[i]?=some x->Nm.label (aw x)=true\/(i+1=tot/\aw x=[42])
def Nm.star(X:List ByteArray):Bool:=match X.getLast? with
 |some x=>decide (aw x=[42])
 |none=>false
theorem Nm.Mp(s:ByteArray)(hr:¬ aw s=[46])(hs:s.size<=60):Nm.valid (aw s)=true↔Nm.Good (Nm.back s).length (Nm.back s):=by
 rw[Nm.L6 _ hr (by rw[show(aw s).length=s.size from Nm.len s];exact hs),Nm.na];have hb:Nm.back s=(Nm.split (aw s)).reverse.map bs:=by simp[Nm.back,Nm.labels,hr]
 rw[hb];generalize Nm.split (aw s)=ls;simp only[Nm.Good,List.length_map,List.length_reverse];refine and_congr_right fun _=>?_;constructor
 ·intro h i x hx;rw[List.getElem?_map,Option.map_eq_some_iff]at hx;obtain⟨y,hy,rfl⟩:=hx;have hi:i<ls.length:=by simpa using(List.getElem?_eq_some_iff.1 hy).1
  rw[List.getElem?_reverse hi]at hy;have:=h (ls.length-1-i) (by omega);simp only[Nm.ke,hy,Bool.or_eq_true,Bool.and_eq_true,decide_eq_true_eq]at this;rw[zS];rcases this with h|⟨h1,h2⟩
  ·exact .inl h
  ·exact .inr ⟨by omega,h2⟩
 ·intro h i hi;obtain⟨y,hy⟩:∃ y,ls[i]?=some y:=⟨_,List.getElem?_eq_getElem hi⟩;have hx:(ls.reverse.map bs)[ls.length-1-i]?=some (bs y):=by
   rw[List.getElem?_map,List.getElem?_reverse (by omega),show ls.length-1-(ls.length-1-i)=i by omega,hy];rfl
  have:=h _ _ hx;rw[zS]at this;simp only[Nm.ke,hy,Bool.or_eq_true,Bool.and_eq_true,decide_eq_true_eq];rcases this with h|⟨h1,h2⟩
  ·exact .inl h
  ·exact .inr ⟨by omega,h2⟩
theorem Nm.UZ:Nm.label [42]=false:=by decide
theorem Nm.U0{pre:List ByteArray}{x:ByteArray}(h:Nm.Good pre.length pre)(aV:Nm.star pre=false)(hc:pre.length+1<=8)(hx:Nm.label (aw x)=true\/aw x=[42]):Nm.Good (pre++[x]).length (pre++[x]):=by
 refine⟨by simpa using hc,fun i y hy=>?_⟩;by_cases hi:i<pre.length
 ·rw[List.getElem?_append_left hi]at hy;rcases h.2 i y hy with h1|⟨h1,h2⟩
  ·exact .inl h1
  ·exfalso;have:pre.getLast?=some y:=by rw[List.getLast?_eq_getElem?,<- hy];congr 1;omega
   simp[Nm.star,this,h2]at aV
 ·have cS:i=pre.length:=by
   have:=(List.getElem?_eq_some_iff.1 hy).1;simp at this;omega
  subst cS;rw[List.getElem?_append_right (Nat.le_refl _)]at hy;simp at hy;subst hy;rcases hx with h1|h1
  ·exact .inl h1
  ·exact .inr ⟨by simp,h1⟩
theorem Nm.U1{pre X:List ByteArray}{x:ByteArray}(hp:pre++[x] <+: X)(h:Nm.star pre=true\/8<pre.length+1\/(Nm.label (aw x)=false/\¬ aw x=[42])):¬ Nm.Good X.length X:=by
 rintro⟨g1,g2⟩;obtain⟨t,rfl⟩:=hp;rcases h with h|h|⟨h1,h2⟩
 ·unfold Nm.star at h;split at h
  ·rename_i y hy;rw[List.getLast?_eq_getElem?]at hy;have ai:=(List.getElem?_eq_some_iff.1 hy).1;have:=g2 (pre.length-1) y (by rw[List.append_assoc,List.getElem?_append_left ai];exact hy);rcases this with e|⟨e,_⟩
   ·rw[of_decide_eq_true h]at e;rw[Nm.UZ]at e;cases e
   ·simp at e;omega
  ·cases h
 ·simp at g1;omega
 ·have:=g2 pre.length x (by simp);rcases this with e|⟨_,e⟩
  ·rw[h1]at e;cases e
  ·exact h2 e
theorem Nm.Mq(pre:List ByteArray)(x:ByteArray):Nm.star (pre++[x])=decide (aw x=[42]):=by simp[Nm.star]
def Nm.Inv(w:World)(pre:List ByteArray)(W:World):Prop :=
 Nm.Good pre.length pre/\W.cell? ⟨w.heap.size,0,none⟩=some (.bool false)/\W.frozen? ⟨w.heap.size,0,none⟩=false /\
 W.cell? ⟨w.heap.size+1,0,none⟩=some (.int .i64 pre.length)/\W.frozen? ⟨w.heap.size+1,0,none⟩=false /\
 W.cell? ⟨w.heap.size+1+1,0,none⟩=some (.bool (Nm.star pre))/\W.frozen? ⟨w.heap.size+1+1,0,none⟩=false
def Nm.Mr(s:ByteArray)(w:World)(c:Code)(pre:List ByteArray)(W:World):Prop :=
 c=.ret/\(pre <+: Nm.back s->¬ Nm.Good (Nm.back s).length (Nm.back s))/\W.cell? ⟨w.heap.size,0,none⟩=some (.bool false)
set_option maxRecDepth 100000 in
set_option maxHeartbeats 2000000 in
theorem U2(s:ByteArray)(w:World)(hs:s.size<=maxLen)(h:aw s=[46]\/60<s.size) :
  Calls Tryz.prog 72 #[.string s] w fun e w'=>e=.returned (.bool (Nm.valid (aw s)))/\Ext w w':=by
 unfold maxLen at hs;by_cases hr:aw s=[46]
 ·have hb:(s.toList==[46])=true:=by rw[ByteArray.toList_eq];simp only[beq_iff_eq];exact hr
  have HV:Hid (Nm.valid (aw s)=true):=by show Nm.valid (aw s)=true;simp[Nm.valid,hr]
  clear hr h;refine(callsIn_wide (n:=3)).1 ?_;refine callsIn_of_wp_marks Tryz.func72 rfl trivial ?_ rfl;simp only[Tryz.ntmps72,List.size_toArray,List.length_cons,List.length_nil,Nat.reduceAdd,Nat.reduceSub,Array.replicate_succ,Array.replicate_zero,List.push_toArray,List.append_toArray,List.nil_append,List.cons_append]
  gi_wp2
  exact⟨.bool true,by simp[results,Tryz.results72,go_sem],by rw[HV.out],(Ext.refl _).alloc _⟩
 ·have hb:(s.toList==[46])=false:=by rw[ByteArray.toList_eq];simp only[beq_eq_false_iff_ne];exact hr
  have vk:60<s.size:=by rcases h with h|h;exact absurd h hr;exact h
  have HV:Hid (Nm.valid (aw s)=false):=Nm.L5 (aw s) hr (by rw[show(aw s).length=s.size from Nm.len s];exact vk);clear hr h;refine(callsIn_wide (n:=3)).1 ?_;refine callsIn_of_wp_marks Tryz.func72 rfl trivial ?_ rfl;simp only[Tryz.ntmps72,List.size_toArray,List.length_cons,List.length_nil,Nat.reduceAdd,Nat.reduceSub,Array.replicate_succ,Array.replicate_zero,List.push_toArray,List.append_toArray,List.nil_append,List.cons_append]
  gi_wp2
  exact⟨.bool false,by simp[results,Tryz.results72,go_sem],by rw[HV.out],(Ext.refl _).alloc _⟩
theorem sX{W:World}{b1 b2:Nat}{u:Value}(h:b1≠b2):(W.setCell ⟨b1,0,none⟩ u).cell? ⟨b2,0,none⟩=W.cell? ⟨b2,0,none⟩ :=
 World.cell?_of_block (Below.heap_setCell W ⟨b1,0,none⟩ u b2 (fun e=>h e.symm))
theorem lB{W:World}{a:Addr}{u v:Value}(h:W.cell? a=some v):(W.setCell a u).cell? a=some u:=World.cell?_setCell_same' _ _ _ (by rw[h];rfl)
theorem sY{W W':World}{a:Addr}{v:Value}{row:Option Nat}(h:W.cell? a=some v)(hg:W.grownBy W' row)(hr:∀ r,row=some r->∃ o:Obj,W.heap[r]?=some o/\o.isCells=false):W'.cell? a=some v:=Go.cell_kept h hg hr
set_option maxRecDepth 100000 in
set_option maxHeartbeats 4000000 in
theorem U3(s:ByteArray)(w:World)(hr:¬ aw s=[46])(vk:s.size<=60) :
  Calls Tryz.prog 72 #[.string s] w fun e w'=>e=.returned (.bool (Nm.valid (aw s)))/\Ext w w':=by
 have hb:(s.toList==[46])=false:=by rw[ByteArray.toList_eq];simp only[beq_eq_false_iff_ne];exact hr
 have HV:=Lib.hid (Nm.Mp s hr vk);have ai:decide (60<(s.size:Int))=false:=by simp;omega
 clear hr;refine(callsIn_wide (n:=5)).1 ?_;refine callsIn_of_wp_marks Tryz.func72 rfl trivial ?_ rfl;simp only[Tryz.ntmps72,List.size_toArray,List.length_cons,List.length_nil,Nat.reduceAdd,Nat.reduceSub,Array.replicate_succ,Array.replicate_zero,List.push_toArray,List.append_toArray,List.nil_append,List.cons_append]
 gi_wp2
 have c0:(((w.alloc (.cells #[.bool false] 4)).alloc (.cells #[.int .i64 0] 3)).alloc (.cells #[.bool false] 4)).cell? ⟨w.heap.size,0,none⟩=some (.bool false):=cell_kept _ (cell_kept _ (D8 _ _ _));have c1:(((w.alloc (.cells #[.bool false] 4)).alloc (.cells #[.int .i64 0] 3)).alloc (.cells #[.bool false] 4)).cell? ⟨w.heap.size+1,0,none⟩=some (.int .i64 0):=cell_kept _ (by have:=D8 (w.alloc (.cells #[.bool false] 4)) (.int .i64 0) 3;rwa [World.size_alloc]at this);have c2:(((w.alloc (.cells #[.bool false] 4)).alloc (.cells #[.int .i64 0] 3)).alloc (.cells #[.bool false] 4)).cell? ⟨w.heap.size+1+1,0,none⟩=some (.bool false):=by have:=D8 ((w.alloc (.cells #[.bool false] 4)).alloc (.cells #[.int .i64 0] 3)) (.bool false) 4;rwa [World.size_alloc,World.size_alloc]at this
 have f0:∀ b,w.heap.size<=b->(((w.alloc (.cells #[.bool false] 4)).alloc (.cells #[.int .i64 0] 3)).alloc (.cells #[.bool false] 4)).frozen? ⟨b,0,none⟩=false:=fun b hb=>by
  rw[frozen?_alloc_cells,frozen?_alloc_cells,frozen?_alloc_cells];exact RP w b 0 hb
 have jz:Below w.heap.size w (((w.alloc (.cells #[.bool false] 4)).alloc (.cells #[.int .i64 0] 3)).alloc (.cells #[.bool false] 4)):=((((Ext.refl w).alloc _).alloc _).alloc _).below;refine Gr rfl (by omega) (gf:=111) (fb := #[.string s]) (lb := #[]) rfl trivial (enters_of Tryz.func111 (by kernel_rfl) rfl)
  (Gz 4 (by omega) s (by unfold maxLen;omega) _) (fun _ _=>trivial) (fun _ _ _ _ _ _ _ _=>trivial) (Below.refl _ _) (fun _=>rfl)
  (fun pre W=>Nm.Inv w pre W/\Below w.heap.size w W)
  (fun c pre W=>Nm.Mr s w c pre W/\Below w.heap.size w W)
  (OwnFrom.and (Own.from (fun pre A B row hs hg hr=>⟨hs.1,sY hs.2.1 hg hr,(frozen_kept hs.2.1 hg hr).trans hs.2.2.1,sY hs.2.2.2.1 hg hr,(frozen_kept hs.2.2.2.1 hg hr).trans hs.2.2.2.2.1,sY hs.2.2.2.2.2.1 hg hr,(frozen_kept hs.2.2.2.2.2.1 hg hr).trans hs.2.2.2.2.2.2⟩) _) (ownFrom_below (Nat.le_refl _) (by simp;omega)))
  (fun c=>OwnFrom.and (Own.from (fun pre A B row hs hg hr=>⟨hs.1,hs.2.1,sY hs.2.2 hg hr⟩) _) (ownFrom_below (Nat.le_refl _) (by simp;omega)))
  ⟨⟨⟨by simp,by simp⟩,c0,f0 _ (by omega),c1,f0 _ (by omega),c2,f0 _ (by omega)⟩,jz⟩
  (fun x=>{ tmps := #[.string s,undef,.pointer (some ⟨w.heap.size,0,none⟩),.pointer (some ⟨w.heap.size+1,0,none⟩),.pointer (some ⟨w.heap.size+1+1,0,none⟩),.string x,.string s,.bool false,.string s,.int .i64 s.size,.bool false,.string s,.func (.func 111) #[.string s] #[],.string x,undef,undef,undef,undef,undef,undef,undef,undef,undef,undef,undef,undef,undef,undef,undef,undef],defers:=[] }) ?assign ?body ?done ?stop
 case assign =>
  intro l x W K hK
  gi_wp2
  exact hK
 case body =>
  rintro l pre x W ⟨⟨hG,k0,g0,k1,g1,k2,g2⟩,hB⟩ hlen;have HG:=Lib.hid hG;have h8:=hG.1;clear hG c0 c1 c2 f0 jz;have zP:(x.toList==[42])=decide (aw x=[42]):=by rw[ByteArray.toList_eq,Bool.eq_iff_iff];simp only[beq_iff_eq,decide_eq_true_eq]
  have Ms:=Lib.hid zP;clear zP;clear hlen;have leave:∀ W',KeepsOthers W W'->W'.cell? ⟨w.heap.size,0,none⟩=some (.bool false)->Below w.heap.size w W' ->
    (Nm.star pre=true\/8<pre.length+1\/(Nm.label (aw x)=false/\¬ aw x=[42]))->KeepsOthers W W'/\Nm.Mr s w .ret (pre++[x]) W'/\Below w.heap.size w W' :=
   fun W' h1 h2 h3 h4=>⟨h1,⟨rfl,fun hp=>Nm.U1 hp h4,h2⟩,h3⟩
  have LV:=Lib.hid leave;have Mt:∀ (st:Bool),Nm.star (pre++[x])=st->Nm.star pre=false->pre.length+1<=8->(Nm.label (aw x)=true\/aw x=[42]) ->
    Nm.Inv w (pre++[x]) ((W.setCell ⟨w.heap.size+1,0,none⟩ (.int .i64 ((pre.length:Int)+1))).setCell ⟨w.heap.size+1+1,0,none⟩ (.bool st)) /\
    Below w.heap.size w ((W.setCell ⟨w.heap.size+1,0,none⟩ (.int .i64 ((pre.length:Int)+1))).setCell ⟨w.heap.size+1+1,0,none⟩ (.bool st)) :=
   fun st h1 h2 h3 h4=>⟨⟨Nm.U0 HG.out h2 h3 h4,
    by rw[sX (by omega),sX (by omega)];exact k0,by rw[World.frozen?_setCell,World.frozen?_setCell];exact g0,
    by rw[sX (by omega),lB k1];simp,by rw[World.frozen?_setCell,World.frozen?_setCell];exact g1,
    by rw[lB (v := .bool (Nm.star pre)) (by rw[sX (by omega)];exact k2),h1],by rw[World.frozen?_setCell,World.frozen?_setCell];exact g2⟩,
    (hB.setCell (p:=⟨w.heap.size+1,0,none⟩) (by simp) _).setCell (p:=⟨w.heap.size+1+1,0,none⟩) (by simp;omega) _⟩
  have GO:=Lib.hid Mt;clear leave Mt;cases aV:Nm.star pre
  ·have vq:=Lib.hid aV;rw[aV]at k2;clear aV;by_cases hc:pre.length+1<=8
   ·cases hx:(x.toList==[42])
    ·have HX:Hid (¬ aw x=[42]):=by have:=Ms.out;rw[hx]at this;exact of_decide_eq_false this.symm
     cases hl:Nm.label (aw x)
     ·have HL:=Lib.hid hl;clear hl
      gi_wp2_with (refine⟨trivial,?_⟩;gi_at_call 112;refine(CallsIn.inRound l (callsIn_wide.2 (Gp x _))).mono ?_;rintro e w' ⟨rfl,rfl⟩;rw[HL.out])
      refine LV.out _ (((KeepsOthers.setCell _ _ _).trans (KeepsOthers.setCell _ _ _)).trans (KeepsOthers.setCell _ _ _)) ?_ ?_ (.inr (.inr ⟨HL.out,HX.out⟩))
      ·exact lB (v := .bool false) (by rw[sX (by omega),sX (by omega)];exact k0)
      ·exact((hB.setCell (p:=⟨w.heap.size+1,0,none⟩) (by simp) _).setCell (p:=⟨w.heap.size+1+1,0,none⟩) (by simp;omega) _).setCell (p:=⟨w.heap.size,0,none⟩) (Nat.le_refl _) _
     ·have HL:=Lib.hid hl;clear hl
      gi_wp2_with (refine⟨trivial,?_⟩;gi_at_call 112;refine(CallsIn.inRound l (callsIn_wide.2 (Gp x _))).mono ?_;rintro e w' ⟨rfl,rfl⟩;rw[HL.out])
      exact⟨(KeepsOthers.setCell _ _ _).trans (KeepsOthers.setCell _ _ _),trivial,GO.out false (by rw[Nm.Mq];exact decide_eq_false HX.out) vq.out hc (.inl HL.out)⟩
    ·have HX:Hid (aw x=[42]):=by show aw x=[42];have:=Ms.out;rw[hx]at this;exact of_decide_eq_true this.symm
     gi_wp2_with fail
     refine⟨trivial,?_⟩
     gi_wp2_with fail
     exact⟨(KeepsOthers.setCell _ _ _).trans (KeepsOthers.setCell _ _ _),trivial,GO.out true (by rw[Nm.Mq];exact decide_eq_true HX.out) vq.out hc (.inr HX.out)⟩
   ·gi_wp2_with fail
    refine LV.out _ ((KeepsOthers.setCell _ _ _).trans (KeepsOthers.setCell _ _ _)) ?_ ?_ (.inr (.inl (by omega)))
    ·exact lB (v := .bool false) (by rw[sX (by omega)];exact k0)
    ·exact(hB.setCell (p:=⟨w.heap.size+1,0,none⟩) (by simp) _).setCell (p:=⟨w.heap.size,0,none⟩) (Nat.le_refl _) _
  ·have vq:=Lib.hid aV;rw[aV]at k2;clear aV
   gi_wp2_with fail
   refine LV.out _ ((KeepsOthers.setCell _ _ _).trans (KeepsOthers.setCell _ _ _)) ?_ ?_ (.inl vq.out)
   ·exact lB (v := .bool false) (by rw[sX (by omega)];exact k0)
   ·exact(hB.setCell (p:=⟨w.heap.size+1,0,none⟩) (by simp) _).setCell (p:=⟨w.heap.size,0,none⟩) (Nat.le_refl _) _
 case done =>
  rintro D ys W hD oV ⟨⟨hG,k0,g0,k1,g1,k2,g2⟩,hB⟩ hK;have HY:Hid (ys=Nm.back s):=oV;have HG:=Lib.hid hG;clear oV hG c0 c1 c2 f0 jz
  gi_wp2
  have s4:=(KeepsOthers.setCell W ⟨w.heap.size,0,none⟩ (.bool true)).same D _ hK rfl;refine⟨by simp,.inl ⟨_,_,rfl,run_takeDeferred s4,?_⟩⟩;have GD:=sY (World.cell?_setCell_same' W ⟨w.heap.size,0,none⟩ (.bool true) (by rw[k0];rfl)) (grownBy_putObj' _ D (.deferred none)) (fun r e=>by cases e;exact⟨_,s4,rfl⟩);have hv:Nm.valid (aw s)=true:=by rw[HV.out,<- HY.out];exact HG.out
  refine⟨.bool true,?_,by rw[hv],Ext.sd ((hB.setCell (p:=⟨w.heap.size,0,none⟩) (Nat.le_refl _) _).trans (belowK_b (w:=w) (Nat.le_refl _) _ D _ _ (by simp at hD;omega) s4 rfl rfl))⟩;simp[results,Tryz.results72,go_sem,GD]
 case stop =>
  rintro D c pre W hD nV ⟨⟨rfl,fk,U4⟩,hB⟩ hK;have HP:Hid (pre <+: Nm.back s):=nV;have U5:=Lib.hid fk;clear nV fk c0 c1 c2 f0 jz
  gi_wp2
  refine⟨by simp,.inl ⟨_,_,rfl,run_takeDeferred hK,?_⟩⟩;have GD:=sY U4 (grownBy_putObj' _ D (.deferred none)) (fun r e=>by cases e;exact⟨_,hK,rfl⟩);have hv:Nm.valid (aw s)=false:=by rw[<- Bool.not_eq_true,HV.out];exact U5.out HP.out
  refine⟨.bool false,?_,by rw[hv],Ext.sd (hB.trans (belowK_b (w:=w) (Nat.le_refl _) W D _ _ (by simp at hD;omega) hK rfl rfl))⟩;simp[results,Tryz.results72,go_sem,GD]
theorem iI(s:ByteArray)(w:World)(hs:s.size<=maxLen) :
  Calls Tryz.prog 72 #[.string s] w fun e w'=>e=.returned (.bool (Nm.valid (aw s)))/\Ext w w':=by
 by_cases h:aw s=[46]\/60<s.size
 ·exact U2 s w hs h
 ·rw[not_or]at h;exact U3 s w h.1 (by omega)
set_option maxHeartbeats 400000 in
theorem U6(s:ByteArray)(w:World)(hs:s.size<=maxLen) :
  Calls Tryz.prog 32 #[.string s] w fun e w'=>e=.returned (.bool (Nm.valid (aw s)))/\Ext w w':=by
 go_enter Tryz.func32,Tryz.ntmps32
 go_wp2_with fail
 refine(iI s _ hs).mono ?_;rintro e w1 ⟨rfl,hx⟩
 go_wp2_with fail
 go_ret
 exact⟨rfl,hx⟩
end Go.Proofs.YtcmnpelmmekdkaaGreatDoor
end
section
namespace Go.Proofs.YtcmnpelmmekdkaaGreatDoor
open Go.RowKit
theorem Nm.U7(l:List UInt8)(h:Nm.valid l=true):1<=l.length:=by
 cases l with
 |nil=>exfalso;revert h;decide
 |cons c r=>simp
theorem Nm.U8(a z:List UInt8):Nm.split z <:+ Nm.split (a++46::z):=⟨Nm.split a,(Nm.Cp a z).symm⟩
theorem Nm.U9(p q:List (List UInt8))(hp:p≠[])(hq:q≠[]):Nm.glue (p++q)=Nm.glue p++46::Nm.glue q:=by
 induction p with
 |nil=>exact absurd rfl hp
 |cons x t ih =>
  cases t with
  |nil =>
   cases q with
   |nil=>exact absurd rfl hq
   |cons y u=>rfl
  |cons y u =>
   have:=ih (by simp);simp only[List.cons_append,Nm.glue]at this ⊢;rw[this];simp
theorem Nm.s5(s z:List UInt8)(hs:s≠[46])(hz:z≠[46]):Nm.under s z=true↔s=z\/∃ a,s=a++46::z:=by
 simp only[Nm.under,decide_eq_true_eq,Nm.labels,hs,hz,if_false];constructor
 ·rintro⟨p,hp⟩;cases p with
  |nil=>left;exact(Nm.LN _ _ hp).symm
  |cons x t =>
   right;refine⟨Nm.glue (x::t),?_⟩;rw[<- Nm.vj s,<- hp,Nm.U9 _ _ (by simp) (Nm.nT z),Nm.vj]
 ·rintro(rfl|⟨a,rfl⟩)
  ·exact List.suffix_refl _
  ·exact Nm.U8 a z
theorem Nm.U'(s z:List UInt8)(hs:Nm.valid s=true)(hz:Nm.valid z=true)(h1:s≠z)(h2:z≠[46]) :
  Nm.under s z=true↔z.length<s.length/\z <:+ s/\s[s.length-z.length-1]?=some 46:=by
 by_cases hr:s=[46]
 ·subst hr;have jP:=Nm.U7 z hz;constructor
  ·intro h;simp only[Nm.under,decide_eq_true_eq,Nm.labels,h2,if_false,if_true]at h;exact absurd (List.eq_nil_of_suffix_nil h) (Nm.nT z)
  ·rintro⟨h,_⟩;exfalso;simp only[List.length_singleton]at h;omega
 ·rw[Nm.s5 s z hr h2];constructor
  ·rintro(h|⟨a,rfl⟩)
   ·exact absurd h h1
   ·refine⟨by simp;omega,⟨a++[46],by simp⟩,?_⟩;rw[show(a++46::z).length-z.length-1=a.length by simp;omega];simp
  ·rintro⟨h,⟨p,rfl⟩,h3⟩;right;have hp:p≠[]:=by rintro rfl;simp at h
   rw[show(p++z).length-z.length-1=p.length-1 by simp,List.getElem?_append_left (by have:=List.length_pos_iff.2 hp;omega)]at h3;refine⟨p.dropLast,?_⟩;have e:p.getLast hp=46:=by
    rw[List.getLast_eq_getElem];exact(List.getElem?_eq_some_iff.1 h3).2
   conv=>lhs;rw[<- List.dropLast_concat_getLast hp,e]
   simp
theorem Nm.Va(s z:List UInt8)(h:s=z\/z=[46]):Nm.under s z=true:=by
 simp only[Nm.under,decide_eq_true_eq];rcases h with rfl|rfl
 ·exact List.suffix_refl _
 ·simp[Nm.labels]
set_option maxHeartbeats 800000 in
theorem Vb(s z:ByteArray)(w:World)(hs:s.size<=maxLen)(hz:z.size<=maxLen) :
  Calls Tryz.prog 91 #[.string s,.string z] w fun e w'=>e=.returned (.tuple #[.bool (Nm.nb (aw s) (aw z)),.int .i64 (if Nm.valid (aw s)&&Nm.valid (aw z)then 0 else 11)])/\Ext w w':=by
 cases h1:Nm.valid (aw s)
 ·have H1:=Lib.hid h1;clear h1
  go_enter Tryz.func91,Tryz.ntmps91
  go_wp2_with fail
  refine(iI s _ hs).mono ?_;rintro e w1 ⟨rfl,dJ⟩;rw[H1.out]
  go_wp2_with fail
  go_ret2
  exact⟨by simp[Nm.nb,H1.out],dJ⟩
 ·cases h2:Nm.valid (aw z)
  ·have H1:=Lib.hid h1;have H2:=Lib.hid h2;clear h1 h2
   go_enter Tryz.func91,Tryz.ntmps91
   go_wp2_with fail
   refine(iI s _ hs).mono ?_;rintro e w1 ⟨rfl,dJ⟩;rw[H1.out]
   go_wp2_with fail
   refine(iI z _ hz).mono ?_;rintro e w2 ⟨rfl,dH⟩;rw[H2.out]
   go_wp2_with fail
   go_ret2
   exact⟨by simp[Nm.nb,H1.out,H2.out],dJ.trans dH⟩
  ·have H1:=Lib.hid h1;have H2:=Lib.hid h2;have zs:=Nm.xf s h1;have zz:=Nm.xf z h2;clear h1 h2;by_cases hb:aw s=aw z\/aw z=[46]
   ·have HU:=Lib.hid (Nm.Va _ _ hb);have e1:(s.toList==z.toList)=decide (aw s=aw z):=zO s z;have e2:(z.toList==[46])=decide (aw z=[46]):=by rw[ByteArray.toList_eq,Bool.eq_iff_iff];simp only[beq_iff_eq,decide_eq_true_eq]
    by_cases bS:aw s=aw z
    ·rw[decide_eq_true bS]at e1;clear e2 hb bS
     go_enter Tryz.func91,Tryz.ntmps91
     go_wp2_with fail
     refine(iI s _ hs).mono ?_;rintro e w1 ⟨rfl,dJ⟩;rw[H1.out]
     go_wp2_with fail
     refine(iI z _ hz).mono ?_;rintro e w2 ⟨rfl,dH⟩;rw[H2.out]
     go_wp2_with fail
     go_ret2
     exact⟨by simp[Nm.nb,H1.out,H2.out,HU.out],dJ.trans dH⟩
    ·have Mu:aw z=[46]:=by rcases hb with h|h;exact absurd h bS;exact h
     rw[decide_eq_false bS]at e1;rw[decide_eq_true Mu]at e2;clear hb bS Mu
     go_enter Tryz.func91,Tryz.ntmps91
     go_wp2_with fail
     refine(iI s _ hs).mono ?_;rintro e w1 ⟨rfl,dJ⟩;rw[H1.out]
     go_wp2_with fail
     refine(iI z _ hz).mono ?_;rintro e w2 ⟨rfl,dH⟩;rw[H2.out]
     go_wp2_with fail
     go_ret2
     exact⟨by simp[Nm.nb,H1.out,H2.out,HU.out],dJ.trans dH⟩
   ·rw[not_or]at hb;have HU:=Lib.hid (Nm.U' _ _ H1.out H2.out hb.1 hb.2);have ls:(aw s).length=s.size:=Nm.len s;have lz:(aw z).length=z.size:=Nm.len z;rw[ls,lz]at HU;have e1:(s.toList==z.toList)=false:=by rw[zO];exact decide_eq_false hb.1
    have e2:(z.toList==[46])=false:=by rw[ByteArray.toList_eq,beq_eq_false_iff_ne];exact hb.2
    clear hb ls lz;by_cases hl:z.size<s.size
    ·cases xk:decide (aw z <:+ aw s)
     ·have HF:Hid (Nm.under (aw s) (aw z)=false):=by
       rw[<- Bool.not_eq_true,HU.out];rintro⟨_,h,_⟩;exact of_decide_eq_false xk h
      have HS:=Lib.hid xk;clear xk
      go_enter Tryz.func91,Tryz.ntmps91
      go_wp2_with fail
      refine(iI s _ hs).mono ?_;rintro e w1 ⟨rfl,dJ⟩;rw[H1.out]
      go_wp2_with fail
      refine(iI z _ hz).mono ?_;rintro e w2 ⟨rfl,dH⟩;rw[H2.out]
      go_wp2_with fail
      refine(Mf s z _ hs hz).mono ?_;rintro e w' ⟨rfl,rfl⟩;rw[HS.out]
      go_wp2_with fail
      go_ret2
      exact⟨by simp[Nm.nb,H1.out,H2.out,HF.out],dJ.trans dH⟩
     ·have hk:s.size-z.size-1<s.size:=by omega
      have HT:Hid (Nm.under (aw s) (aw z)=decide (((s[s.size-z.size-1]'hk).toNat:Int)=46)):=by
       show Nm.under (aw s) (aw z)=decide _;rw[Bool.eq_iff_iff,HU.out];have e:(aw s)[s.size-z.size-1]?=some (s[s.size-z.size-1]'hk):=by rw[List.getElem?_eq_getElem (by simpa [aw]using hk)];rfl
       rw[e];simp only[Option.some.injEq,decide_eq_true_eq];constructor
       ·rintro⟨_,_,h⟩;rw[h];rfl
       ·intro h;exact⟨hl,of_decide_eq_true xk,(Nm.toNat_eq _ 46).1 h⟩
      have HS:=Lib.hid xk;clear xk;have j1:((s.size:Int)-(z.size:Int)-1).toNat=s.size-z.size-1:=by omega
      have j2:(0:Int)<=(s.size:Int)-(z.size:Int)-1:=by omega
      have j3:(s.size:Int)-(z.size:Int)-1<(s.size:Int):=by omega
      go_enter Tryz.func91,Tryz.ntmps91
      go_wp2_with fail
      refine(iI s _ hs).mono ?_;rintro e w1 ⟨rfl,dJ⟩;rw[H1.out]
      go_wp2_with fail
      refine(iI z _ hz).mono ?_;rintro e w2 ⟨rfl,dH⟩;rw[H2.out]
      go_wp2_with fail
      refine(Mf s z _ hs hz).mono ?_;rintro e w' ⟨rfl,rfl⟩;rw[HS.out]
      go_wp2_with fail
      go_ret2
      refine⟨?_,dJ.trans dH⟩;simp only[Nm.nb,H1.out,H2.out,HT.out,Bool.true_and]
      congr 4
      try simp
    ·have HF:Hid (Nm.under (aw s) (aw z)=false):=by
      rw[<- Bool.not_eq_true,HU.out];rintro⟨h,_,_⟩;omega
     go_enter Tryz.func91,Tryz.ntmps91
     go_wp2_with fail
     refine(iI s _ hs).mono ?_;rintro e w1 ⟨rfl,dJ⟩;rw[H1.out]
     go_wp2_with fail
     refine(iI z _ hz).mono ?_;rintro e w2 ⟨rfl,dH⟩;rw[H2.out]
     go_wp2_with fail
     go_ret2
     exact⟨by simp[Nm.nb,H1.out,H2.out,HF.out],dJ.trans dH⟩
end Go.Proofs.YtcmnpelmmekdkaaGreatDoor
end
section
namespace Go.Proofs.YtcmnpelmmekdkaaGreatDoor
open Go.RowKit Go.Shelf
attribute [local go_sem] Oper.semAt_some
set_option maxHeartbeats 1000000 in
set_option maxRecDepth 100000 in
theorem Wu(a b:ByteArray)(w:World) :
  Calls Tryz.prog 183 #[.string a,.string b] w fun e w'=>e=.returned (.int .i64 (Lib.compareBytes (aw a) (aw b)))/\w'=w:=by
 go_enter Tryz.func183,Tryz.ntmps183
 go_wp2
 rw[run_callFunc_extern Tryz.func225 (by kernel_rfl) (by kernel_rfl) (by kernel_rfl) (e:=Extern.BytealgCompare.compare) (by kernel_rfl),Lib.run_compareString];simp only[Result.andThen];rw[Oper.upon_value]
 go_wp2
 go_ret
 exact⟨rfl,rfl⟩
set_option maxHeartbeats 1000000 in
theorem Wv(a b:ByteArray)(w:World) :
  Calls Tryz.prog 117 #[.string a,.string b] w fun e w'=>e=.returned (.int .i64 (Lib.compareBytes (aw a) (aw b)))/\w'=w:=by
 go_enter Tryz.func117,Tryz.ntmps117
 go_wp2_with (go_at_call 183;refine(Wu _ _ _).mono ?_;rintro e w' ⟨rfl,rfl⟩)
 go_ret
 exact⟨rfl,rfl⟩
def Ww(rest:ByteArray)(bm br:Nat)(w:World)(e:Ending)(w':World):Prop :=
 ∃ x,e=.returned (.tuple #[.string x,.bool true])/\((Nm.split (aw rest)=[aw x]/\w'=w.setCell ⟨bm,0,none⟩ (.bool false)) \/
  ∃ r',r'.size<=rest.size/\Nm.split (aw rest)=Nm.split (aw r')++[aw x]/\w'=w.setCell ⟨br,0,none⟩ (.string r'))
set_option maxHeartbeats 1000000 in
set_option maxRecDepth 100000 in
theorem Wx(bm br:Nat)(w:World)(h1:w.cell? ⟨bm,0,none⟩=some (.bool false)) :
  Calls Tryz.prog 182 #[.pointer (some ⟨bm,0,none⟩),.pointer (some ⟨br,0,none⟩)] w fun e w'=>e=.returned (.tuple #[.string ⟨#[]⟩,.bool false])/\w'=w:=by
 go_enter Tryz.func182,Tryz.ntmps182
 go_wp2
 go_ret2
 exact⟨rfl,rfl⟩
set_option maxHeartbeats 1000000 in
set_option maxRecDepth 100000 in
theorem Wy(rest:ByteArray)(bm br:Nat)(w:World)(hs:rest.size<=60)(h1:w.cell? ⟨bm,0,none⟩=some (.bool true))(f1:w.frozen? ⟨bm,0,none⟩=false)(h2:w.cell? ⟨br,0,none⟩=some (.string rest))(f2:w.frozen? ⟨br,0,none⟩=false) :
  Calls Tryz.prog 182 #[.pointer (some ⟨bm,0,none⟩),.pointer (some ⟨br,0,none⟩)] w (Ww rest bm br w):=by
 go_enter Tryz.func182,Tryz.ntmps182
 go_wp2_with fail
 refine(Me rest 46 _ (by unfold maxLen;omega)).mono ?_;rintro e w' ⟨i,rfl,hi,rfl⟩;have HI:=Lib.hid hi;obtain⟨jb,lH,_,_⟩:=hi;by_cases GA:0<=i
 ·obtain⟨m,rfl⟩:=Int.eq_ofNat_of_zero_le GA;have HS:=Lib.hid (Nm.Mn rest m HI.out)
  go_wp2_with fail
  go_ret2
  refine⟨rest.extract (m+1) rest.size,rfl,.inr ⟨rest.extract 0 m,by rw[ByteArray.size_extract];omega,?_,rfl⟩⟩;rw[HS.out,Nm.Cy,Nm.Cz]
 ·obtain rfl:i = -1:=by omega
  have HS:=Lib.hid (Nm.zK _ (Nm.Mm rest HI.out));have hx:rest.extract 0 rest.size=rest:=zN (by rw[Nm.Cy,List.take_of_length_le (Nat.le_of_eq (Nm.len rest))])
  go_wp2_with fail
  go_ret2
  exact⟨rest,rfl,.inl ⟨HS.out,rfl⟩⟩
theorem G1(s:ByteArray):s.toList=aw s:=by rw[ByteArray.toList_eq]
structure Wz(s:ByteArray)(w w':World):Prop where
 ext:Ext w w'
 size:w'.heap.size=w.heap.size+2
 rest:Boxed w' w.heap.size 9 (.string s)
 more:Boxed w' (w.heap.size+1) 4 (.bool (!s.toList==[46]))
set_option maxHeartbeats 1000000 in
set_option maxRecDepth 100000 in
theorem WA(s:ByteArray)(w:World) :
  Calls Tryz.prog 116 #[.string s] w fun e w'=>e=.returned (.func (.func 182) #[] #[.pointer (some ⟨w.heap.size+1,0,none⟩),.pointer (some ⟨w.heap.size,0,none⟩)])/\Wz s w w':=by
 go_enter Tryz.func116,Tryz.ntmps116
 go_wp2
 go_ret
 refine⟨rfl,((Ext.refl w).alloc _).alloc _,by simp,(Boxed.new w _ _).alloc _,?_⟩;have:=Boxed.new (w.alloc (.cells #[.string s] 9)) 4 (.bool (!s.toList==[46]))
 rwa [World.size_alloc]at this
def kR:List ByteArray->List ByteArray->Int
 |[],[]=>0
 |[],_::_ => -1
 |_::_,[]=>1
 |x::l,y::m=>if Lib.compareBytes (aw x) (aw y)≠0 then Lib.compareBytes (aw x) (aw y)else kR l m
theorem Ns:∀ (l:List UInt8),Lib.compareBytes l l=0
 |[]=>rfl
 |c::l=>by
  have:¬ c<c:=by simp
  simp[Lib.compareBytes,this,Ns l]
theorem CU:∀ (p l m:List ByteArray),kR (p++l) (p++m)=kR l m
 |[],_,_=>rfl
 |x::p,l,m=>by
  simp only[List.cons_append,kR,Ns,ne_eq,not_true_eq_false,if_false];exact CU p l m
theorem WB{A B pre:List ByteArray}{x:ByteArray}(h1:pre=B.take pre.length)(h2:B.drop pre.length=[])(h3:pre++[x] <+: A):kR A B=1:=by
 obtain⟨r,rfl⟩:=h3;have hB:B=pre:=by
  have:=List.take_append_drop pre.length B;rw[h2,<- h1,List.append_nil]at this;exact this.symm
 rw[hB];have:=CU pre (x::r) [];rw[List.append_nil]at this;rw[List.append_assoc,List.singleton_append,this];rfl
theorem WC{A B pre m:List ByteArray}{x y:ByteArray}(h1:pre=B.take pre.length)(h2:B.drop pre.length=y::m)(h3:pre++[x] <+: A)(h4:Lib.compareBytes (aw x) (aw y)≠0):kR A B=Lib.compareBytes (aw x) (aw y):=by
 obtain⟨r,rfl⟩:=h3;have hB:B=pre++y::m:=by
  have:=List.take_append_drop pre.length B;rw[h2,<- h1]at this;exact this.symm
 have hc:=CU pre (x::r) (y::m);rw[<- hB]at hc;rw[List.append_assoc,List.singleton_append,hc,kR,if_pos h4]
theorem WD{A B:List ByteArray}(h1:A=B.take A.length)(h2:A≠B):kR A B = -1:=by
 cases hd:B.drop A.length with
 |nil =>
  have:=List.take_append_drop A.length B;rw[hd,<- h1,List.append_nil]at this;exact absurd this h2
 |cons y m =>
  have hB:B=A++y::m:=by
   have:=List.take_append_drop A.length B;rw[hd,<- h1]at this;exact this.symm
  have hc:=CU A [] (y::m);rw[List.append_nil,<- hB]at hc;rw[hc];rfl
theorem Nt:∀ {l m:List UInt8},Lib.compareBytes l m=0->l=m
 |[],[],_=>rfl
 |[],_::_,h=>by simp[Lib.compareBytes]at h
 |_::_,[],h=>by simp[Lib.compareBytes]at h
 |c::l,d::m,h=>by
  simp only[Lib.compareBytes]at h;split at h
  ·simp at h
  ·split at h
   ·simp at h
   ·rename_i h1 h2;have:c=d:=UInt8.le_antisymm (UInt8.not_lt.1 h2) (UInt8.not_lt.1 h1);rw[this,Nt h]
theorem drop_cons{α:Type}{B m:List α}{n:Nat}{y:α}(h:B.drop n=y::m):B.take (n+1)=B.take n++[y]/\B.drop (n+1)=m:=by
 have h1:B[n]?=some y:=by
  have:=congrArg (fun l=>l[0]?) h
  simpa using this
 have h2:B.drop (n+1)=m:=by
  have:=congrArg List.tail h
  simpa using this
 exact⟨by rw[List.take_add_one,h1];rfl,h2⟩
def G2(rest:ByteArray)(more:Bool)(R:List ByteArray):Prop:=(more=false/\R=[])\/(more=true/\R=(Nm.split (aw rest)).reverse.map bs)
theorem Boxed.still{W W':World}{row:Option Nat}{B:Nat}{t:TypeId}{v:Value}(h:Boxed W B t v)(hg:W.grownBy W' row)(hr:∀ r,row=some r->∃ o:Obj,W.heap[r]?=some o/\o.isCells=false):Boxed W' B t v :=
 h.kept hg fun e=>by
  obtain⟨o,ho,hc⟩:=hr B e.symm;rw[show W.heap[B]?=_ from h]at ho;cases ho;cases hc
theorem Ae{a b:List UInt8}(h:Nm.labels a=Nm.labels b):a=b:=by
 unfold Nm.labels at h;split at h
 ·split at h
  ·simp_all
  ·exact absurd h.symm (Nm.nT _)
 ·split at h
  ·exact absurd h (Nm.nT _)
  ·exact Nm.LN _ _ h
theorem WE{a b:ByteArray}(h:Nm.back a=Nm.back b):aw a=aw b:=by
 unfold Nm.back at h;have h1:=congrArg (List.map aw) h;simp only[List.map_map]at h1;have e:∀ l:List (List UInt8),l.map (aw ∘ bs)=l:=fun l=>by
  induction l with
  |nil=>rfl
  |cons x l ih=>rw[List.map_cons,ih];simp[zS]
 rw[e,e]at h1;exact Ae (List.reverse_inj.1 h1)
set_option maxRecDepth 100000 in
set_option maxHeartbeats 4000000 in
theorem WG(a b:ByteArray)(w:World)(ha:Nm.valid (aw a)=true)(hb:Nm.valid (aw b)=true)(aH:¬ aw a=aw b) :
  Calls Tryz.prog 76 #[.string a,.string b] w fun e w'=>e=.returned (.tuple #[.int .i64 (kR (Nm.back a) (Nm.back b)),.int .i64 0])/\Ext w w':=by
 have WH:=Lib.hid (fun h=>aH (WE h));have WI:=Nm.xf a ha;have WJ:=Nm.xf b hb;have yS:(a.toList==b.toList)=false:=by rw[G1,G1];simp only[beq_eq_false_iff_ne];exact aH
 have HA:=Lib.hid ha;have HB:=Lib.hid hb;clear ha hb aH;refine(callsIn_wide (n:=5)).1 ?_;refine callsIn_of_wp_marks Tryz.func76 rfl trivial ?_ rfl;simp only[Tryz.ntmps76,List.size_toArray,List.length_cons,List.length_nil,Nat.reduceAdd,Nat.reduceSub,Array.replicate_succ,Array.replicate_zero,List.push_toArray,List.append_toArray,List.nil_append,List.cons_append]
 gi_wp2_with fail
 refine⟨trivial,?_⟩;refine(callsIn_wide.2 (iI a _ (by unfold maxLen;omega))).mono ?_;rintro e w1 ⟨rfl,dJ⟩;rw[HA.out]
 gi_wp2_with fail
 refine⟨trivial,?_⟩;refine(callsIn_wide.2 (iI b _ (by unfold maxLen;omega))).mono ?_;rintro e w2 ⟨rfl,dH⟩;rw[HB.out]
 gi_wp2_with fail
 refine⟨trivial,?_⟩;refine(callsIn_wide.2 (WA b _)).mono ?_;rintro e w3 ⟨rfl,hp⟩
 gi_wp2_with fail
 have G3:Ext w w2:=((((Ext.refl w).alloc _).alloc _).trans dJ).trans dH;have b1:Boxed w2 w.heap.size 3 (.int .i64 0):=by
  have h0:Boxed ((w.alloc (.cells #[.int .i64 0] 3)).alloc (.cells #[.int .i64 0] 33)) w.heap.size 3 (.int .i64 0):=(Boxed.new w _ _).alloc _;have h1:Boxed w1 w.heap.size 3 (.int .i64 0):=(dJ.block _ h0.lt).trans h0;exact(dH.block _ h1.lt).trans h1
 have b2:Boxed w2 (w.heap.size+1) 33 (.int .i64 0):=by
  have h0:Boxed ((w.alloc (.cells #[.int .i64 0] 3)).alloc (.cells #[.int .i64 0] 33)) (w.heap.size+1) 33 (.int .i64 0):=by
   have:=Boxed.new (w.alloc (.cells #[.int .i64 0] 3)) 33 (.int .i64 0)
   rwa [World.size_alloc]at this
  have h1:Boxed w1 (w.heap.size+1) 33 (.int .i64 0):=(dJ.block _ h0.lt).trans h0;exact(dH.block _ h1.lt).trans h1
 have adq:=b1.lt;have ki:=b2.lt;obtain⟨o5,Af⟩:∃ o5:Value,o5=.func (.func 182) #[] #[.pointer (some ⟨w2.heap.size+1,0,none⟩),.pointer (some ⟨w2.heap.size,0,none⟩)]:=⟨_,rfl⟩;have b3:=(show Boxed w3 w.heap.size 3 (.int .i64 0)from (hp.ext.block _ b1.lt).trans b1).alloc (.cells #[o5] 182);have b4:=(show Boxed w3 (w.heap.size+1) 33 (.int .i64 0)from (hp.ext.block _ b2.lt).trans b2).alloc (.cells #[o5] 182);have b5:=hp.rest.alloc (.cells #[o5] 182);have b6:=hp.more.alloc (.cells #[o5] 182);have b7:=Boxed.new w3 182 o5;have G4:=hp.size;have jz:Below w.heap.size w (w3.alloc (.cells #[o5] 182)):=((G3.trans hp.ext).alloc _).below;rw[<- Af];generalize Nu:w3.alloc (.cells #[o5] 182)=W0 at *;have WK:W0.heap.size=w2.heap.size+3:=by rw[<- Nu,World.size_alloc,G4]
 have xB:Nm.back b=if aw b=[46]then[]else(Nm.split (aw b)).reverse.map bs:=by
  unfold Nm.back Nm.labels;split<;>simp
 have CV:G2 b (!b.toList==[46]) (Nm.back b):=by
  rw[xB,G1];by_cases hr:aw b=[46]
  ·left;simp[hr]
  ·right;simp[hr]
 clear Nu hp dJ dH b1 b2;rw[G4]at b7 ⊢;clear G4;refine Gr rfl (by omega) (gf:=111) (fb := #[.string a]) (lb := #[]) rfl trivial (enters_of Tryz.func111 (by kernel_rfl) rfl)
  (Gz 4 (by omega) a (by unfold maxLen;omega) _) (fun _ _=>trivial) (fun _ _ _ _ _ _ _ _=>trivial) (Below.refl _ _) (fun _=>rfl)
  (fun pre W=>(∃ (rest:ByteArray) (more:Bool),Boxed W w.heap.size 3 (.int .i64 0)/\Boxed W (w.heap.size+1) 33 (.int .i64 0)/\Boxed W (w2.heap.size+2) 182 o5/\Boxed W (w2.heap.size+1) 4 (.bool more)/\Boxed W w2.heap.size 9 (.string rest)/\rest.size<=60/\G2 rest more ((Nm.back b).drop pre.length)/\pre=(Nm.back b).take pre.length)/\Below w.heap.size w W)
  (fun c pre W=>(c=.ret/\∃ v,Boxed W w.heap.size 3 (.int .i64 v)/\Boxed W (w.heap.size+1) 33 (.int .i64 0)/\(pre <+: Nm.back a->v=kR (Nm.back a) (Nm.back b)))/\Below w.heap.size w W)
  (OwnFrom.and (Own.from (fun pre A B row hs hg hr=>by
   obtain⟨rest,more,g1,g2,g3,g4,g5,g6⟩:=hs
   exact⟨rest,more,Boxed.still g1 hg hr,Boxed.still g2 hg hr,Boxed.still g3 hg hr,Boxed.still g4 hg hr,Boxed.still g5 hg hr,g6⟩) _) (ownFrom_below (Nat.le_refl _) (by omega)))
  (fun c=>OwnFrom.and (Own.from (fun pre A B row hs hg hr=>by
   obtain⟨e,v,g1,g2,g3⟩:=hs
   exact⟨e,v,Boxed.still g1 hg hr,Boxed.still g2 hg hr,g3⟩) _) (ownFrom_below (Nat.le_refl _) (by omega)))
  ⟨⟨b,_,b3,b4,b7,b6,b5,WJ,CV,by simp⟩,jz⟩
  (fun x=>{ tmps := #[.string a,.string b,undef,undef,.pointer (some ⟨w.heap.size,0,none⟩),.pointer (some ⟨w.heap.size+1,0,none⟩),.string a,.string b,   .pointer (some ⟨w2.heap.size+2,0,none⟩),.func (.func 111) #[.string a] #[],.string x,undef,undef,undef,.string a,.string b,.string a,.bool true,.bool false,.bool false,.string b,.bool true,.bool false,.bool false,.string a,.string b,.bool false,.string b,o5,.string a,.func (.func 111) #[.string a] #[],.func (.func 111) #[.string a] #[],.string x,undef,undef,undef,undef,undef,undef,undef,undef,undef,undef,undef,undef,undef],defers:=[] }) ?assign ?body ?done ?stop
 case assign =>
  intro l x W K hK;subst Af
  gi_wp2
  exact hK
 case body =>
  rintro l pre x W ⟨⟨rest,more,g1,g2,g3,g4,g5,g6,aV,nV⟩,hB⟩ hlen;have vq:=Lib.hid aV;have Ag:=Lib.hid nV;clear aV nV hlen b3 b4 b5 b6 b7 jz CV xB WK;subst Af;have n12:w.heap.size≠w.heap.size+1:=by omega
  have leave:∀ (W1:World) (v:Int),KeepsOthers W W1->Boxed W1 w.heap.size 3 (.int .i64 0)->Boxed W1 (w.heap.size+1) 33 (.int .i64 0)->Below w.heap.size w W1->(pre++[x] <+: Nm.back a->v=kR (Nm.back a) (Nm.back b)) ->
    KeepsOthers W ((W1.setCell ⟨w.heap.size,0,none⟩ (.int .i64 v)).setCell ⟨w.heap.size+1,0,none⟩ (.int .i64 0))/\(∃ u,Boxed ((W1.setCell ⟨w.heap.size,0,none⟩ (.int .i64 v)).setCell ⟨w.heap.size+1,0,none⟩ (.int .i64 0)) w.heap.size 3 (.int .i64 u)/\Boxed ((W1.setCell ⟨w.heap.size,0,none⟩ (.int .i64 v)).setCell ⟨w.heap.size+1,0,none⟩ (.int .i64 0)) (w.heap.size+1) 33 (.int .i64 0)/\(pre++[x] <+: Nm.back a->u=kR (Nm.back a) (Nm.back b)))/\Below w.heap.size w ((W1.setCell ⟨w.heap.size,0,none⟩ (.int .i64 v)).setCell ⟨w.heap.size+1,0,none⟩ (.int .i64 0)) :=
   fun W1 v h0 h1 h2 h3 h4=>⟨(h0.trans (KeepsOthers.setCell _ _ _)).trans (KeepsOthers.setCell _ _ _),⟨v,(h1.set (.int .i64 v)).other n12 _,(h2.other n12.symm (.int .i64 v)).set (.int .i64 0),h4⟩,
    (h3.setCell (p:=⟨w.heap.size,0,none⟩) (by simp) _).setCell (p:=⟨w.heap.size+1,0,none⟩) (by simp) _⟩
  have LV:=Lib.hid leave;clear leave;have k1:=g1.cell;have xC:=g1.frozen;have k2:=g2.cell;have xD:=g2.frozen;have k3:=g3.cell;have k4:=g4.cell;have Nv:=g4.frozen;have k5:=g5.cell;have Nw:=g5.frozen;cases more
  ·gi_wp2_with fail
   refine⟨trivial,?_⟩;refine(CallsIn.inRound l (callsIn_wide.2 (Wx _ _ _ k4))).mono ?_;rintro e W1 ⟨rfl,rfl⟩
   gi_wp2_with fail
   obtain⟨q1,q2,q3⟩:=LV.out _ 1 (KeepsOthers.refl _) g1 g2 hB fun hp=>by
    rcases vq.out with⟨-,hd⟩|⟨h,-⟩
    ·exact(WB Ag.out hd hp).symm
    ·cases h
   exact⟨q1,⟨rfl,q2⟩,q3⟩
  ·have hd:(Nm.back b).drop pre.length=(Nm.split (aw rest)).reverse.map bs:=by
    rcases vq.out with⟨h,-⟩|⟨-,h⟩
    ·cases h
    ·exact h
   have HD:=Lib.hid hd;clear hd
   gi_wp2_with fail
   refine⟨trivial,?_⟩;refine(CallsIn.inRound l (callsIn_wide.2 (Wy rest _ _ _ g6 k4 Nv k5 Nw))).mono ?_;rintro e W1 ⟨y,rfl,hy⟩;clear k1 xC k2 xD k3 k4 Nv k5 Nw;have fin:∃ (Ah:ByteArray) (CW:Bool) (m:List ByteArray),(Nm.back b).drop pre.length=y::m/\G2 Ah CW m/\Ah.size<=60/\Boxed W1 w.heap.size 3 (.int .i64 0)/\Boxed W1 (w.heap.size+1) 33 (.int .i64 0)/\Boxed W1 (w2.heap.size+2) 182 (.func (.func 182) #[] #[.pointer (some ⟨w2.heap.size+1,0,none⟩),.pointer (some ⟨w2.heap.size,0,none⟩)])/\Boxed W1 (w2.heap.size+1) 4 (.bool CW)/\Boxed W1 w2.heap.size 9 (.string Ah)/\KeepsOthers W W1/\Below w.heap.size w W1:=by
    rcases hy with⟨hs,rfl⟩|⟨r',Nx,Ai,rfl⟩
    ·refine⟨rest,false,[],?_,.inl ⟨rfl,rfl⟩,g6,g1.other (by omega) _,g2.other (by omega) _,g3.other (by omega) _,g4.set _,g5.other (by omega) _,KeepsOthers.setCell _ _ _,hB.setCell (p:=⟨w2.heap.size+1,0,none⟩) (by simp;omega) _⟩;rw[HD.out,hs];simp[xj]
    ·refine⟨r',true,(Nm.split (aw r')).reverse.map bs,?_,.inr ⟨rfl,rfl⟩,by omega,g1.other (by omega) _,g2.other (by omega) _,g3.other (by omega) _,g4.other (by omega) _,g5.set _,KeepsOthers.setCell _ _ _,hB.setCell (p:=⟨w2.heap.size,0,none⟩) (by simp;omega) _⟩;rw[HD.out,Ai];simp[xj]
   clear hy g1 g2 g3 g4 g5;obtain⟨Ah,CW,m,hm,eM,WL,g1,g2,g3,g4,g5,Ny,CA⟩:=fin;have HM:=Lib.hid hm;have WM:=Lib.hid eM;clear hm eM;have k1:=g1.cell;have xC:=g1.frozen;have k2:=g2.cell;have xD:=g2.frozen
   gi_wp2_with fail
   refine⟨trivial,?_⟩;refine(CallsIn.inRound l (callsIn_wide.2 (Wv x y _))).mono ?_;rintro e W2 ⟨rfl,rfl⟩;generalize CX:Lib.compareBytes (aw x) (aw y)=c;have HC:=Lib.hid CX;clear CX;by_cases hc:c=0
   ·subst hc
    gi_wp2_with fail
    have WN:x=y:=zN (Nt HC.out);obtain⟨d1,d2⟩:=drop_cons HM.out;have gh:(pre++[x]).length=pre.length+1:=by simp
    refine⟨Ny,trivial,⟨Ah,CW,g1,g2,g3,g4,g5,WL,?_,?_⟩,CA⟩
    ·rw[gh,d2];exact WM.out
    ·rw[gh,d1,<- Ag.out,WN]
   ·have M5:(c != 0)=true:=by simpa using hc
    gi_wp2_with fail
    obtain⟨q1,q2,q3⟩:=LV.out _ c Ny g1 g2 CA fun hp=>by
     have:=WC Ag.out HM.out hp (by rw[HC.out];exact hc);rw[HC.out]at this;exact this.symm
    exact⟨q1,⟨rfl,q2⟩,q3⟩
 case done =>
  rintro D ys W hD oV ⟨⟨rest,more,g1,g2,g3,g4,g5,g6,aV,nV⟩,hB⟩ hK;have HY:Hid (ys=Nm.back a):=oV;have Ag:=Lib.hid nV;clear oV nV aV b3 b4 b5 b6 b7 jz CV xB;subst Af;have k1:=g1.cell;have xC:=g1.frozen;have k2:=g2.cell;have xD:=g2.frozen
  gi_wp2
  have hv:kR (Nm.back a) (Nm.back b) = -1:=by
   rw[<- HY.out];exact WD Ag.out (fun h=>WH.out (HY.out ▸ h))
  have n12:w.heap.size≠w.heap.size+1:=by omega
  have q1:=(g1.set (.int .i64 (-1))).other n12 (.int .i64 0);have q2:=(g2.other n12.symm (.int .i64 (-1))).set (.int .i64 0);have s4:=((KeepsOthers.setCell W ⟨w.heap.size,0,none⟩ (.int .i64 (-1))).trans (KeepsOthers.setCell _ ⟨w.heap.size+1,0,none⟩ (.int .i64 0))).same D _ hK rfl;refine⟨by simp,.inl ⟨_,_,rfl,run_takeDeferred s4,?_⟩⟩;have hg:=grownBy_putObj' ((W.setCell ⟨w.heap.size,0,none⟩ (.int .i64 (-1))).setCell ⟨w.heap.size+1,0,none⟩ (.int .i64 0)) D (.deferred none);have r1:=(Boxed.still q1 hg (fun r e=>by cases e;exact⟨_,s4,rfl⟩)).cell;have r2:=(Boxed.still q2 hg (fun r e=>by cases e;exact⟨_,s4,rfl⟩)).cell;refine⟨.tuple #[.int .i64 (-1),.int .i64 0],?_,by rw[hv],Ext.sd (((hB.setCell (p:=⟨w.heap.size,0,none⟩) (by simp) _).setCell (p:=⟨w.heap.size+1,0,none⟩) (by simp) _).trans (belowK_b (w:=w) (Nat.le_refl _) _ D _ _ (by omega) s4 rfl rfl))⟩;simp[results,Tryz.results76,go_sem,r1,r2]
 case stop =>
  rintro D c pre W hD nV ⟨⟨rfl,v,g1,g2,hv⟩,hB⟩ hK;have HP:Hid (pre <+: Nm.back a):=nV;have HV:=Lib.hid hv;clear nV hv b3 b4 b5 b6 b7 jz CV xB;subst Af
  gi_wp2
  refine⟨by simp,.inl ⟨_,_,rfl,run_takeDeferred hK,?_⟩⟩;have hg:=grownBy_putObj' W D (.deferred none);have r1:=(Boxed.still g1 hg (fun r e=>by cases e;exact⟨_,hK,rfl⟩)).cell;have r2:=(Boxed.still g2 hg (fun r e=>by cases e;exact⟨_,hK,rfl⟩)).cell;refine⟨.tuple #[.int .i64 v,.int .i64 0],?_,by rw[HV.out HP.out],Ext.sd (hB.trans (belowK_b (w:=w) (Nat.le_refl _) W D _ _ (by omega) hK rfl rfl))⟩;simp[results,Tryz.results76,go_sem,r1,r2]
set_option maxRecDepth 100000 in
set_option maxHeartbeats 4000000 in
theorem WO(a:ByteArray)(w:World)(ha:Nm.valid (aw a)=true) :
  Calls Tryz.prog 76 #[.string a,.string a] w fun e w'=>e=.returned (.tuple #[.int .i64 0,.int .i64 0])/\Ext w w':=by
 have WI:=Nm.xf a ha;have yS:(a.toList==a.toList)=true:=by simp
 have HA:=Lib.hid ha;clear ha;refine(callsIn_wide (n:=5)).1 ?_;refine callsIn_of_wp_marks Tryz.func76 rfl trivial ?_ rfl;simp only[Tryz.ntmps76,List.size_toArray,List.length_cons,List.length_nil,Nat.reduceAdd,Nat.reduceSub,Array.replicate_succ,Array.replicate_zero,List.push_toArray,List.append_toArray,List.nil_append,List.cons_append]
 gi_wp2_with fail
 refine⟨trivial,?_⟩;refine(callsIn_wide.2 (iI a _ (by unfold maxLen;omega))).mono ?_;rintro e w1 ⟨rfl,dJ⟩;rw[HA.out]
 gi_wp2_with fail
 refine⟨trivial,?_⟩;refine(callsIn_wide.2 (iI a _ (by unfold maxLen;omega))).mono ?_;rintro e w2 ⟨rfl,dH⟩;rw[HA.out];have G3:Ext w w2:=((((Ext.refl w).alloc _).alloc _).trans dJ).trans dH;have b1:Boxed w2 w.heap.size 3 (.int .i64 0):=by
  have h0:Boxed ((w.alloc (.cells #[.int .i64 0] 3)).alloc (.cells #[.int .i64 0] 33)) w.heap.size 3 (.int .i64 0):=(Boxed.new w _ _).alloc _;have h1:Boxed w1 w.heap.size 3 (.int .i64 0):=(dJ.block _ h0.lt).trans h0;exact(dH.block _ h1.lt).trans h1
 have b2:Boxed w2 (w.heap.size+1) 33 (.int .i64 0):=by
  have h0:Boxed ((w.alloc (.cells #[.int .i64 0] 3)).alloc (.cells #[.int .i64 0] 33)) (w.heap.size+1) 33 (.int .i64 0):=by
   have:=Boxed.new (w.alloc (.cells #[.int .i64 0] 3)) 33 (.int .i64 0)
   rwa [World.size_alloc]at this
  have h1:Boxed w1 (w.heap.size+1) 33 (.int .i64 0):=(dJ.block _ h0.lt).trans h0;exact(dH.block _ h1.lt).trans h1
 have k1:=b1.cell;have xC:=b1.frozen;have k2:=b2.cell;have xD:=b2.frozen
 gi_wp2_with fail
 have n12:w.heap.size≠w.heap.size+1:=by omega
 have r1:=((b1.set (.int .i64 0)).other n12 (.int .i64 0)).cell;have r2:=((b2.other n12.symm (.int .i64 0)).set (.int .i64 0)).cell;exact⟨.tuple #[.int .i64 0,.int .i64 0],by simp[results,Tryz.results76,go_sem,r1,r2],rfl,Ext.sd ((G3.below.setCell (p:=⟨w.heap.size,0,none⟩) (by simp) _).setCell (p:=⟨w.heap.size+1,0,none⟩) (by simp) _)⟩
end Go.Proofs.YtcmnpelmmekdkaaGreatDoor
end
section
namespace Go.Proofs.YtcmnpelmmekdkaaGreatDoor
open Go.RowKit Go.Shelf
attribute [local go_sem] Oper.semAt_some
def o6(W:World)(A:Nat)(pre:List ByteArray):Prop :=
 (∀ j,j<8->∃ v,W.cell? ⟨A,j,none⟩=some v/\W.frozen? ⟨A,j,none⟩=false)/\∀ i x,pre[i]?=some x->i<8/\W.cell? ⟨A,7-i,none⟩=some (.string x)
theorem o6.still{W W':World}{A:Nat}{pre:List ByteArray}{row:Option Nat}(h:o6 W A pre)(hg:W.grownBy W' row)(hr:∀ r,row=some r->∃ o:Obj,W.heap[r]?=some o/\o.isCells=false):o6 W' A pre :=
 ⟨fun j hj=>by obtain⟨v,h1,h2⟩:=h.1 j hj;exact⟨v,sY h1 hg hr,(frozen_kept h1 hg hr).trans h2⟩,fun i x hx=>⟨(h.2 i x hx).1,sY (h.2 i x hx).2 hg hr⟩⟩
theorem Nz{W:World}{b1 b2 o1 o2:Nat}{u:Value}(h:b1≠b2):(W.setCell ⟨b1,o1,none⟩ u).cell? ⟨b2,o2,none⟩=W.cell? ⟨b2,o2,none⟩ :=
 World.cell?_of_block (Below.heap_setCell W ⟨b1,o1,none⟩ u b2 (fun e=>h e.symm))
theorem NA{W:World}{B B' o:Nat}{t:TypeId}{u v:Value}(h:Boxed W B t v)(aH:B'≠B):Boxed (W.setCell ⟨B',o,none⟩ u) B t v :=
 (Below.heap_setCell W ⟨B',o,none⟩ u B (fun e=>aH e.symm)).trans h
theorem o6.off{W:World}{A B o:Nat}{pre:List ByteArray}{u:Value}(h:o6 W A pre)(aH:B≠A):o6 (W.setCell ⟨B,o,none⟩ u) A pre :=
 ⟨fun j hj=>by obtain⟨v,h1,h2⟩:=h.1 j hj;exact⟨v,(Nz aH).trans h1,by rw[World.frozen?_setCell];exact h2⟩,fun i x hx=>⟨(h.2 i x hx).1,(Nz aH).trans (h.2 i x hx).2⟩⟩
theorem o6.put{W:World}{A m:Nat}{pre:List ByteArray}(x:ByteArray)(h:o6 W A pre)(hm:m+1+pre.length=8):o6 (W.setCell ⟨A,m,none⟩ (.string x)) A (pre++[x]):=by
 obtain⟨u,hu,-⟩:=h.1 m (by omega);have hs:(W.setCell ⟨A,m,none⟩ (.string x)).cell? ⟨A,m,none⟩=some (.string x):=World.cell?_setCell_same' _ _ _ (by rw[hu];rfl);have ho:∀ j,j≠m->(W.setCell ⟨A,m,none⟩ (.string x)).cell? ⟨A,j,none⟩=W.cell? ⟨A,j,none⟩:=fun j hj=>by
  apply World.cell?_setCell_other;intro e;cases e;exact hj rfl
 refine⟨fun j hj=>?_,fun i y hy=>?_⟩
 ·obtain⟨v,h1,h2⟩:=h.1 j hj;by_cases e:j=m
  ·subst e;exact⟨_,hs,by rw[World.frozen?_setCell];exact h2⟩
  ·exact⟨v,(ho j e).trans h1,by rw[World.frozen?_setCell];exact h2⟩
 ·have hl:i<pre.length+1:=by have:=(List.getElem?_eq_some_iff.1 hy).1;simpa using this
  by_cases e:i=pre.length
  ·subst e;rw[List.getElem?_append_right (Nat.le_refl _)]at hy;simp at hy;subst hy;refine⟨by omega,?_⟩;rw[show 7-pre.length=m by omega];exact hs
  ·rw[List.getElem?_append_left (by omega)]at hy;exact⟨(h.2 i y hy).1,(ho _ (by omega)).trans (h.2 i y hy).2⟩
set_option maxRecDepth 100000 in
set_option maxHeartbeats 4000000 in
theorem WQ(s:ByteArray)(w:World)(hv:Nm.valid (aw s)=true) :
  Calls Tryz.prog 153 #[.string s] w fun e w'=>∃ (B k:Nat),(Nm.back s≠[]->k+(Nm.back s).length=8)/\e=.returned (.tuple #[.slice (some ⟨B,k,none⟩) (Nm.back s).length (Nm.back s).length,.int .i64 0])/\Ext w w'/\w.heap.size<=B/\∀ i x,(Nm.back s)[i]?=some x->w'.cell? ⟨B,7-i,none⟩=some (.string x):=by
 have vk:=Nm.xf s hv;have HV:=Lib.hid hv;clear hv;refine(callsIn_wide (n:=5)).1 ?_;refine callsIn_of_wp_marks Tryz.func153 rfl trivial ?_ rfl;simp only[Tryz.ntmps153,List.size_toArray,List.length_cons,List.length_nil,Nat.reduceAdd,Nat.reduceSub,Array.replicate_succ,Array.replicate_zero,List.push_toArray,List.append_toArray,List.nil_append,List.cons_append]
 gi_wp2_with fail
 refine⟨trivial,?_⟩;refine(callsIn_wide.2 (iI s _ (by unfold maxLen;omega))).mono ?_;rintro e w1 ⟨rfl,dJ⟩;rw[HV.out]
 gi_wp2_with fail
 have NB:=run_make (P:=Tryz.prog) w1 32 9 _ _ rfl rfl rfl .i64 .i64 8 8 (by omega) (by omega) (by decide) (by omega);have cb:∃ nj:Array Value,nj.size=8/\Sem.run Tryz.prog (Instr.makeSlice 32 (.int .i64 8) (.int .i64 8)) w1=.ok (.slice (some ⟨w1.heap.size,0,none⟩) 8 8) (w1.alloc (.cells nj 9)):=⟨_,size_madeCells _ _,NB⟩;obtain⟨nj,WR,cV⟩:=cb;clear NB;rw[cV];clear cV
 gi_wp2_with fail
 have b1:Boxed (((w1.alloc (.cells nj 9)).alloc (.cells #[.slice (some ⟨w1.heap.size,0,none⟩) 8 8] 32)).alloc (.cells #[.int .i64 8] 3)) (w1.heap.size+1) 32 (.slice (some ⟨w1.heap.size,0,none⟩) 8 8):=by
  have:=Boxed.new (w1.alloc (.cells nj 9)) 32 (.slice (some ⟨w1.heap.size,0,none⟩) 8 8);rw[World.size_alloc]at this;exact this.alloc _
 have b2:Boxed (((w1.alloc (.cells nj 9)).alloc (.cells #[.slice (some ⟨w1.heap.size,0,none⟩) 8 8] 32)).alloc (.cells #[.int .i64 8] 3)) (w1.heap.size+1+1) 3 (.int .i64 8):=by
  have:=Boxed.new ((w1.alloc (.cells nj 9)).alloc (.cells #[.slice (some ⟨w1.heap.size,0,none⟩) 8 8] 32)) 3 (.int .i64 8)
  rwa [World.size_alloc,World.size_alloc]at this
 have b0:o6 (((w1.alloc (.cells nj 9)).alloc (.cells #[.slice (some ⟨w1.heap.size,0,none⟩) 8 8] 32)).alloc (.cells #[.int .i64 8] 3)) w1.heap.size []:=by
  refine⟨fun j hj=>?_,by simp⟩;have hblk:(((w1.alloc (.cells nj 9)).alloc (.cells #[.slice (some ⟨w1.heap.size,0,none⟩) 8 8] 32)).alloc (.cells #[.int .i64 8] 3)).heap[w1.heap.size]?=some (.cells nj 9):=by
   have h1:=World.alloc_heap_new w1 (.cells nj 9);exact(Below.heap_alloc _ _ _ (by simp;omega)).trans ((Below.heap_alloc _ _ _ (by simp)).trans h1)
  exact⟨nj[j]'(by omega),by simp[World.cell?,hblk,WR,hj],by simp[World.frozen?,hblk]⟩
 have jz:Below w.heap.size w (((w1.alloc (.cells nj 9)).alloc (.cells #[.slice (some ⟨w1.heap.size,0,none⟩) 8 8] 32)).alloc (.cells #[.int .i64 8] 3)):=(((dJ.alloc _).alloc _).alloc _).below;have xE:w.heap.size<=w1.heap.size:=dJ.below.size;have h8:(Nm.back s).length<=8:=by
  by_cases hr:aw s=[46]
  ·simp[Nm.back,Nm.labels,hr]
  ·exact((Nm.Mp s hr vk).1 HV.out).1
 refine Gr rfl (by omega) (gf:=111) (fb := #[.string s]) (lb := #[]) rfl trivial (enters_of Tryz.func111 (by kernel_rfl) rfl)
  (Gz 4 (by omega) s (by unfold maxLen;omega) _) (fun _ _=>trivial) (fun _ _ _ _ _ _ _ _=>trivial) (Below.refl _ _) (fun _=>rfl)
  (fun pre W=>(o6 W w1.heap.size pre/\Boxed W (w1.heap.size+1) 32 (.slice (some ⟨w1.heap.size,0,none⟩) 8 8)/\∃ n:Nat,n+pre.length=8/\Boxed W (w1.heap.size+1+1) 3 (.int .i64 n))/\Below w.heap.size w W)
  (fun c pre W=>False/\Below w.heap.size w W)
  (OwnFrom.and (Own.from (fun pre A B row hs hg hr=>by
   obtain⟨g0,g1,n,g3,g4⟩:=hs
   exact⟨g0.still hg hr,Boxed.still g1 hg hr,n,g3,Boxed.still g4 hg hr⟩) _) (ownFrom_below (Nat.le_refl _) (by simp;omega)))
  (fun c=>OwnFrom.and (Own.from (fun pre A B row hs hg hr=>hs.elim) _) (ownFrom_below (Nat.le_refl _) (by simp;omega)))
  ⟨⟨b0,b1,8,rfl,b2⟩,jz⟩
  (fun x=>{ tmps := #[.string s,undef,.slice none 0 0,.int .i64 0,.string s,.pointer (some ⟨w1.heap.size+1,0,none⟩),.pointer (some ⟨w1.heap.size+1+1,0,none⟩),.func (.func 111) #[.string s] #[],.string x,.string s,.string s,.bool true,.bool false,.slice (some ⟨w1.heap.size,0,none⟩) 8 8,.slice (some ⟨w1.heap.size,0,none⟩) 8 8,.int .i64 8,.string s,.func (.func 111) #[.string s] #[],.func (.func 111) #[.string s] #[],.string x,undef,undef,undef,undef,undef,undef,undef,undef,undef,undef,undef,undef,undef],defers:=[] }) ?assign ?body ?done ?stop
 case assign =>
  intro l x W K hK
  gi_wp2
  exact hK
 case body =>
  rintro l pre x W ⟨⟨g0,g1,n,hn,g2⟩,hB⟩ hlen;have nk:1<=n:=by omega
  obtain⟨m,rfl⟩:∃ m,n=m+1:=⟨n-1,by omega⟩;obtain⟨old,r1,r1f⟩:=g0.1 m (by omega);have k1:=g1.cell;have xC:=g1.frozen;have k2:=g2.cell;have xD:=g2.frozen;clear b0 b1 b2 jz
  gi_wp2_with fail
  refine⟨(KeepsOthers.setCell _ _ _).trans (KeepsOthers.setCell _ _ _),trivial,⟨(g0.off (by omega)).put x (by omega),NA (g1.other (by omega) _) (by omega),m,by simp;omega,NA (g2.set _) (by omega)⟩,?_⟩;exact(hB.setCell (p:=⟨w1.heap.size+1+1,0,none⟩) (by simp;omega) _).setCell (p:=⟨w1.heap.size,m,none⟩) (by simp;omega) _
 case done =>
  rintro D ys W hD oV ⟨⟨g0,g1,n,hn,g2⟩,hB⟩ hK;have k1:=g1.cell;have xC:=g1.frozen;have k2:=g2.cell;have xD:=g2.frozen;clear b0 b1 b2 jz;have HY:Hid (ys=Nm.back s):=oV;have HG:=Lib.hid g0;have HN:=Lib.hid hn;clear oV g0 h8
  gi_wp2
  all_goals
   refine⟨by simp,.inl ⟨_,_,rfl,run_takeDeferred hK,?_⟩⟩;have WS:=HG.out.still (grownBy_putObj' _ D (.deferred none)) (fun r e=>by cases e;exact⟨_,hK,rfl⟩);have eu:=hB.trans (belowK_b (w:=w) (Nat.le_refl _) W D _ (.deferred none) (by simp at hD;omega) hK rfl rfl);have hn:=HN.out
  ·have WT:ys=[]:=List.length_eq_zero_iff.1 (by omega);have iA:Nm.back s=[]:=by rw[<- HY.out];exact WT
   refine⟨.tuple #[.slice (some ⟨w1.heap.size,0,none⟩) 0 0,.int .i64 0],by simp[results,Tryz.results153,go_sem],w1.heap.size,0,fun h=>absurd iA h,by rw[iA];rfl,Ext.sd eu,xE,fun i x hx=>by rw[iA]at hx;simp at hx⟩
  ·have WU:=HY.out;subst WU;refine⟨.tuple #[.slice (some ⟨w1.heap.size,n,none⟩) (8-n) (8-n),.int .i64 0],by simp[results,Tryz.results153,go_sem],w1.heap.size,n,fun _=>hn,by rw[show(Nm.back s).length=8-n by omega],Ext.sd eu,xE,fun i x hx=>(WS.2 i x hx).2⟩
 case stop =>
  rintro D c pre W hD nV ⟨hf,-⟩ hK;exact hf.elim
set_option maxRecDepth 100000 in
set_option maxHeartbeats 4000000 in
theorem WV(s:ByteArray)(w:World)(hs:s.size<=maxLen)(hv:Nm.valid (aw s)=false) :
  Calls Tryz.prog 153 #[.string s] w fun e w'=>e=.returned (.tuple #[.slice none 0 0,.int .i64 11])/\Ext w w':=by
 refine(callsIn_wide (n:=5)).1 ?_;refine callsIn_of_wp_marks Tryz.func153 rfl trivial ?_ rfl;simp only[Tryz.ntmps153,List.size_toArray,List.length_cons,List.length_nil,Nat.reduceAdd,Nat.reduceSub,Array.replicate_succ,Array.replicate_zero,List.push_toArray,List.append_toArray,List.nil_append,List.cons_append]
 gi_wp2_with fail
 refine⟨trivial,?_⟩;refine(callsIn_wide.2 (iI s _ hs)).mono ?_;rintro e w1 ⟨rfl,dJ⟩;rw[hv]
 gi_wp2_with fail
 exact⟨_,by simp[results,Tryz.results153,go_sem],rfl,dJ⟩
end Go.Proofs.YtcmnpelmmekdkaaGreatDoor
end
