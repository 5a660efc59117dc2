/- Several texts of mine, one behind the other. Conditions: as each says. -/
import Derived.Test.YtcmnpelmmekdkaaGreatDoorY0
import Derived.Lib.SmallJoins
import Derived.RangeFuncNested
import Derived.RangeFuncBound
import Derived.RangeFuncCalls
import Derived.RangeFuncLeaves
import Derived.Shelf.Abstract
import Derived.Shelf.RegionOpen
import Derived.OwnWalkIn
import Derived.TacticsInMore
import Derived.LoopNIn
import Derived.LoopIn
import Derived.RangeFuncFrom
set_option linter.unusedVariables false
set_option linter.unusedSimpArgs false
section
namespace Go.Proofs.YtcmnpelmmekdkaaGreatDoor.Nm
def split:List UInt8→List (List UInt8)
 | []=>[[]]
 |c::r=>if c=46 then []::split r else match split r with
  | []=>[[c]]
  |h::t=>(c::h)::t
theorem nC (l:List UInt8):split l≠[]:=by
 cases l with
 |nil=>simp [split]
 |cons c r=>simp only [split]; split <;> (try split) <;> simp
theorem qU (c:UInt8) (r:List UInt8) (h:c≠46):∃ x t,split r=x::t∧split (c::r)=(c::x)::t:=by
 have:=nC r
 match hr:split r,this with
 |x::t,_=>exact ⟨x,t,rfl,by simp [split,h,hr]⟩
theorem Cf (a b:List UInt8):split (a++46::b)=split a++split b:=by
 induction a with
 |nil=>simp [split]
 |cons c r ih =>
  by_cases h:c=46
  ·subst h; simp [split,ih]
  ·obtain ⟨x,t,h1,h2⟩:=qU c r h;obtain ⟨y,u,h3,h4⟩:=qU c (r++46::b) h;rw [List.cons_append,h4,h2];rw [ih,h1] at h3;simp only [List.cons_append,List.cons.injEq] at h3;obtain ⟨rfl,rfl⟩:=h3;rfl
theorem zw (l:List UInt8) (h:46 ∉ l):split l=[l]:=by
 induction l with
 |nil=>rfl
 |cons c r ih =>
  simp only [List.mem_cons,not_or] at h;have hc:c≠46:=fun e=>h.1 e.symm;simp [split,hc,ih h.2]
theorem TO (l:List UInt8):split (l++[46])=split l++[[]]:=Cf l []
theorem TP (l:List UInt8) (c:UInt8) (h:c≠46):∃ i x,split l=i++[x]∧split (l++[c])=i++[x++[c]]:=by
 induction l with
 |nil=>exact ⟨[],[],rfl,by simp [split,h]⟩
 |cons d r ih =>
  obtain ⟨i,x,h1,h2⟩:=ih;by_cases hd:d=46
  ·subst hd;exact ⟨[]::i,x,by simp [split,h1],by simp [split,h2]⟩
  ·obtain ⟨y,u,h3,h4⟩:=qU d r hd;obtain ⟨z,v,h5,h6⟩:=qU d (r++[c]) hd;rw [h1] at h3;rw [h2] at h5;rw [List.cons_append,h6,h4];cases i with
   |nil =>
    simp only [List.nil_append,List.cons.injEq] at h3 h5;obtain ⟨rfl,rfl⟩:=h3;obtain ⟨rfl,rfl⟩:=h5;exact ⟨[],d::x,rfl,rfl⟩
   |cons p q =>
    simp only [List.cons_append,List.cons.injEq] at h3 h5;obtain ⟨rfl,rfl⟩:=h3;obtain ⟨rfl,rfl⟩:=h5;exact ⟨(d::p)::q,x,rfl,rfl⟩
theorem Lr (l:List UInt8):∀ x∈split l,46 ∉ x:=by
 induction l with
 |nil=>simp [split]
 |cons c r ih =>
  by_cases hc:c=46
  ·subst hc; simp only [split,if_true];intro x hx;rcases List.mem_cons.1 hx with rfl | h
   ·simp
   ·exact ih x h
  ·obtain ⟨y,u,h1,h2⟩:=qU c r hc;rw [h2];intro x hx;rcases List.mem_cons.1 hx with rfl | h
   ·simp only [List.mem_cons,not_or]; exact ⟨fun e=>hc e.symm,ih y (by rw [h1]; simp)⟩
   ·exact ih x (by rw [h1]; simp [h])
def glue:List (List UInt8)→List UInt8
 | []=>[]
 | [x]=>x
 |x::y::t=>x++46::glue (y::t)
theorem uE (l:List UInt8):glue (split l)=l:=by
 induction l with
 |nil=>rfl
 |cons c r ih =>
  by_cases hc:c=46
  ·subst hc;simp only [split,if_true];have:=nC r
   match hr:split r,this with
   |x::t,_=>rw [hr] at ih; simp [glue,ih]
  ·obtain ⟨y,u,h1,h2⟩:=qU c r hc;rw [h2];rw [h1] at ih;cases u with
   |nil=>simp only [glue] at ih ⊢; rw [ih]
   |cons z v=>simp only [glue,List.cons_append] at ih ⊢; rw [ih]
theorem Ls (ls:List (List UInt8)) (aJ:ls≠[]) (h:∀ x∈ls,46 ∉ x):split (glue ls)=ls:=by
 induction ls with
 |nil=>exact absurd rfl aJ
 |cons x t ih =>
  cases t with
  |nil=>exact zw x (h x (by simp))
  |cons y u =>
   simp only [glue];rw [Cf,zw x (h x (by simp)),ih (by simp) (fun z hz=>h z (by simp [hz]))];rfl
theorem Lt (a b:List UInt8) (h:split a=split b):a=b:=by rw [← uE a,← uE b,h]
def F5 (c:UInt8):Bool:=(decide (97≤c.toNat)&&decide (c.toNat≤122))||(decide (48≤c.toNat)&&decide (c.toNat≤57))
def nD (l:List UInt8) (i:Nat):Bool:=match l[i]? with
 |some c=>F5 c||(c==45&&decide (0<i)&&decide (i+1<l.length))
 |none=>true
def label (l:List UInt8):Bool:=decide (1≤l.length∧l.length≤12∧∀ i,i<l.length→nD l i=true)
def parts (ls:List (List UInt8)):Bool:=decide (ls.length≤8)&&(match ls with
 | []=>true
 |x::t=>(label x||x==[42])&&t.all label)
def valid (l:List UInt8):Bool:=decide (l=[46])||(decide (l.length≤60)&&parts (split l))
def labels (l:List UInt8):List (List UInt8):=if l=[46] then [] else split l
def under (s z:List UInt8):Bool:=decide (labels z <:+ labels s)
def gJ (l:List UInt8):Bool:=match l with
 |c::_=>c==42
 | []=>false
end Go.Proofs.YtcmnpelmmekdkaaGreatDoor.Nm
end
section
namespace Go.Proofs.YtcmnpelmmekdkaaGreatDoor
open Go.RowKit
theorem Nm.len (s:ByteArray):s.data.toList.length=s.size:=by show s.data.toList.length=s.data.size; simp
theorem Nm.Cg (s:ByteArray) (k:Nat) (h:k<s.size):Nm.nD s.data.toList k=true ↔
  ((97≤(s[k].toNat:Int)∧(s[k].toNat:Int)≤122)∨(48≤(s[k].toNat:Int)∧(s[k].toNat:Int)≤57)∨((s[k].toNat:Int)=45∧0<k∧k+1<s.size)):=by
 have hk:s.data.toList[k]? = some s[k]:=by
  rw [List.getElem?_eq_getElem (by simpa using h)]; rfl
 have hl:s.data.toList.length=s.size:=Nm.len s;have TQ:(s[k]==45)=decide ((s[k].toNat:Int)=45):=by
  rw [Bool.eq_iff_iff]; simp only [beq_iff_eq,decide_eq_true_eq];constructor
  ·intro e; rw [e]; rfl
  ·intro e; apply UInt8.toNat.inj; show _=45; omega
 simp only [Nm.nD,hk,Nm.F5,hl,TQ];simp;omega
theorem Nm.zA {p:Nat→Bool} {k:Nat} (h:∀ j,j<k→p j=true) (hk:p k=true):∀ j,j<k+1→p j=true:=by
 intro j hj;by_cases e:j=k
 ·subst e; exact hk
 ·exact h j (by omega)
theorem Nm.Ch (l:List UInt8) (k:Nat) (h:k<l.length) (hk:Nm.nD l k≠true):false=Nm.label l:=by
 symm;simp only [Nm.label,decide_eq_false_iff_not];rintro ⟨_,_,h3⟩;exact hk (h3 k h)
theorem Nm.Lu (l:List UInt8) (h:∀ i,i<l.length→Nm.nD l i=true):Nm.label l=decide (1≤l.length∧l.length≤12):=by
 rw [Bool.eq_iff_iff];simp only [Nm.label,decide_eq_true_eq];exact ⟨fun h=>⟨h.1,h.2.1⟩,fun g=>⟨g.1,g.2,h⟩⟩
set_option maxHeartbeats 800000 in
theorem Ci (s:ByteArray) (w:World) (hs:s.size≤maxLen) :
  Calls Tryz.prog 50 #[.string s] w fun e w'=>e = .returned (.bool (Nm.label s.data.toList))∧w=w':=by
 unfold maxLen at hs;have hlen:s.data.toList.length=s.size:=Nm.len s;have pw:=Lib.hid hlen;clear hlen
 go_enter Tryz.func50,Tryz.ntmps50
 go_wp2
 go_loop [3] (fun i=>∃ k:Nat,k≤s.size∧i = .int .i64 k∧Hid (∀ j,j<k→Nm.nD s.data.toList j=true)) (fun i=>s.size - (intOf i).toNat)
 case atStart=>exact ⟨0,Nat.zero_le _,rfl,(fun j hj=>by omega:∀ j,j<0→Nm.nD s.data.toList j=true)⟩
 case round =>
  obtain ⟨k,hk,rfl,I⟩:=hrel;by_cases ai:k<s.size
  ·have HL:=Lib.hid (Nm.Cg s k ai);by_cases hz:(k:Int)<(s.size:Int) - 1;all_goals
    go_wp2
    all_goals first
     |(exfalso; omega)
     |(refine ⟨⟨k + 1, by omega, by go_num, ?_⟩, by simp [intOf]; omega⟩
       exact Nm.zA I.out (HL.out.2 (by omega)))
     |(go_ret
       exact ⟨mq (Nm.Ch s.data.toList k (by rw [pw.out]; exact ai) (fun h => absurd (HL.out.1 h) (by omega))), rfl⟩)
  ·obtain rfl:k=s.size:=by omega
   go_wp2
   all_goals
    go_ret
    exact ⟨mq (by rw [Nm.Lu s.data.toList (by rw [pw.out]; exact I.out),pw.out,Bool.eq_iff_iff]; simp; omega),rfl⟩
end Go.Proofs.YtcmnpelmmekdkaaGreatDoor
end
section
namespace Go.Proofs.YtcmnpelmmekdkaaGreatDoor
open Go.RowKit
def At (w:World) (b off:Nat) (cs:List Value):Prop:=∀ j u,cs[j]? = some u→w.cell? ⟨b,off+j,none⟩=some u
theorem At.ext {w w':World} (hx:Ext w w') {b off:Nat} {cs:List Value} (h:At w b off cs):At w' b off cs:=fun j u hj=>hx.keep (h j u hj)
def oC {α:Type} (R:World→List Value→α→Prop) (size:Nat) (w:World) (v:Value) (l:List α):Prop :=
 ∃ a cap,v = .slice a l.length cap∧l.length≤cap∧cap≤maxLen ∧
  (∀ b,a=some b→b.spot=none) ∧
  ∀ (i:Nat) (x:α),l[i]? = some x→∃ b off cs,a=some ⟨b,off,none⟩∧cs.length=size∧At w b (off+i*size) cs∧R w cs x
def TR {α:Type} (R:World→List Value→α→Prop):Prop:=∀ (w w':World) (cs:List Value) (x:α),Ext w w'→R w cs x→R w' cs x
theorem oC.ext {α:Type} {R:World→List Value→α→Prop} (hR:TR R) {size:Nat} {w w':World} {v:Value} {l:List α} (hx:Ext w w') (h:oC R size w v l):oC R size w' v l:=by
 obtain ⟨a,cap,h1,h2,h3,h4,h5⟩:=h;refine ⟨a,cap,h1,h2,h3,h4,fun i x hi=>?_⟩;obtain ⟨b,off,cs,g1,g2,g3,g4⟩:=h5 i x hi;exact ⟨b,off,cs,g1,g2,g3.ext hx,hR _ _ _ _ hx g4⟩
theorem oC.Lv {α:Type} {R:World→List Value→α→Prop} {size:Nat} {w:World} {base:Nat} {e:TypeId} {v:Value} {n:Nat} {xs:List Value} {l:List α} (h:w.ownsRow base e size v n xs) (hl:l.length=n)
  (hR:∀ (i:Nat) (x:α),l[i]? = some x→R w ((xs.drop (i*size)).take size) x):oC R size w v l:=by
 subst hl;obtain ⟨hlen,h1 | ⟨g,cap,cur,h1,h2,h3,h4,h5,h6,h7⟩⟩:=h
 ·obtain ⟨rfl,h0⟩:=h1;refine ⟨none,0,by rw [h0],by omega,by unfold maxLen; omega,(fun b hb=>by cases hb),fun i x hi=>?_⟩;rw [List.eq_nil_of_length_eq_zero h0] at hi; simp at hi
 ·have h:w.ownsRow base e size v l.length xs:=⟨hlen,.inr ⟨g,cap,cur,h1,h2,h3,h4,h5,h6,h7⟩⟩;subst h1;refine ⟨some ⟨g,0,none⟩,cap,rfl,h4,h5,(fun b hb=>by cases hb; rfl),fun i x hi=>?_⟩;have iM:i<l.length:=(List.getElem?_eq_some_iff.1 hi).1;have hb:i*size+size≤l.length*size:=by
   have:(i+1)*size≤l.length*size:=Nat.mul_le_mul_right _ iM
   rwa [Nat.add_mul,Nat.one_mul] at this
  refine ⟨g,0,(xs.drop (i*size)).take size,rfl,by rw [List.length_take,List.length_drop,hlen]; omega,fun j u hj=>?_,hR i x hi⟩;have dK:j<size:=by
   have:=(List.getElem?_eq_some_iff.1 hj).1;rw [List.length_take] at this; omega
  have hc:=h.cellAt (i*size+j) (by omega);rw [List.getElem?_take,if_pos dK,List.getElem?_drop] at hj;rw [hj] at hc
  simpa using hc
def F6 (_:World) (cs:List Value) (s:ByteArray):Prop:=cs=[.string s]∧s.size≤maxLen
structure Datum where
 text:ByteArray
 n:Int
 m:Int
structure eu where
 name:ByteArray
 type:Int
 gy:Int
 data:List Datum
structure Key where
 n:Int
 nE:Int
structure gW where
 ay:ByteArray
 key:Int
 nE:Int
 oD:Int
 til:Int
 sum:Int
structure Signed where
 set:eu
 sigs:List gW
structure aU where
 ab:ByteArray
 af:List Signed
def js (n:Int):Prop := -9223372036854775808≤n∧n≤9223372036854775807
def F7 (n:Int):Prop:=0≤n∧n≤18446744073709551615
end Go.Proofs.YtcmnpelmmekdkaaGreatDoor
end
section
namespace Go.Proofs.YtcmnpelmmekdkaaGreatDoor
open Go.RowKit
abbrev az (s:ByteArray):List UInt8:=s.data.toList
theorem zB {a b:ByteArray} (h:az a=az b):a=b:=by
 cases a; cases b; congr 1; exact Array.toList_inj.1 h
theorem Tryz.TS:(Tryz.prog.info? 9).map (fun i=>(i.zero,i.size,i.bytes))=some (some (.string ⟨#[]⟩),1,16):=by kernel_rfl
theorem Nm.Lw (l:List UInt8) (k:Nat) (c:UInt8) (hk:l[k]? = some c) (hc:c=46):Nm.split (l.take (k+1))=Nm.split (l.take k)++[[]]:=by
 subst hc;rw [List.take_add_one,hk];exact Nm.TO _
theorem Nm.Lx (l:List UInt8) (k:Nat) (c:UInt8) (hk:l[k]? = some c) (hc:c≠46) (i:List (List UInt8)) (x:List UInt8) (h:Nm.split (l.take k)=i++[x]):Nm.split (l.take (k+1))=i++[x++[c]]:=by
 rw [List.take_add_one,hk];obtain ⟨i',x',h1,h2⟩:=Nm.TP (l.take k) c hc;rw [h1] at h;obtain ⟨rfl,e⟩:=List.append_inj' h rfl;simp only [List.cons.injEq,and_true] at e;subst e;exact h2
theorem Nm.TT (s:ByteArray) (k:Nat) (h:k<s.size):az (s.extract k (k+1))=[s[k]]:=by
 have h1:(s.extract k (k+1)).data=s.data.extract k (k+1):=ByteArray.data_extract;show (s.extract k (k+1)).data.toList=_;rw [h1,Array.toList_extract,List.extract_eq_take_drop,show k+1 - k=1 by omega];have hk:k<s.data.toList.length:=by simpa using h
 rw [List.drop_eq_getElem_cons hk];rfl
def Ly {α:Type} (R:World→Value→α→Prop) (P:α→Prop) (w:World) (e:Ending) (w':World):Prop:=∃ v x,e = .returned v∧P x∧R w' v x∧Ext w w'
set_option maxHeartbeats 1000000 in
theorem LA (s:ByteArray) (w:World) (hs:s.size≤1000) :
  Calls Tryz.prog 49 #[.string s] w (Ly (oC F6 1) (fun xs:List ByteArray=>xs.map az=Nm.split (az s)) w):=by
 obtain ⟨i0,hi,F8,jG,gg⟩:=info_parts Tryz.TS
 go_enter Tryz.func49,Tryz.ntmps49
 go_wp2
 go_loopw [3,4] (fun v i wr=>∃ (k:Nat) (xs:List ByteArray),k≤s.size∧i = .int .i64 k∧xs.length≤k+1∧wr.ownsRow w.heap.size 9 1 v xs.length (xs.map Value.string)∧Ext w wr ∧
   Hid (xs.map az=Nm.split ((az s).take k)∧∀ x∈xs,x.size≤k)) (fun _ i _=>s.size - (intOf i).toNat)
 case atStart =>
  refine ⟨0,[⟨#[]⟩],Nat.zero_le _,rfl,by simp,?_,(Ext.refl _).alloc _,(⟨rfl,fun z hz=>by rw [List.mem_singleton.1 hz]; exact Nat.le_refl _⟩:_∧_)⟩;exact ⟨by simp,.inr ⟨w.heap.size,1,#[.string ⟨#[]⟩],rfl,Nat.le_refl _,heap_alloc_new w _,by simp,by unfold maxLen; omega,by simp,by simp⟩⟩
 case round =>
  obtain ⟨k,xs,hk,rfl,gK,bC,hx,I⟩:=hrel;by_cases ai:k<s.size
  ·have Cj:∃ ys x,xs=ys++[x]:=by
    have:=Nm.nC ((az s).take k);rw [← I.out.1] at this;exact ⟨xs.dropLast,xs.getLast (by simpa using this),(List.dropLast_concat_getLast _).symm⟩
   obtain ⟨ys,x,rfl⟩:=Cj;obtain ⟨g,cap,rfl⟩:=Joins.ownsRow_form bC (by simp);have acg:ys.length≤k:=by simpa using gK
   have kz:=bC.lt g rfl;have LB:(az s)[k]? = some s[k]:=by rw [List.getElem?_eq_getElem (by simpa [az] using ai)]; rfl
   have LC:=Lib.hid LB;clear LB gK;by_cases hd:s[k]=46
   ·have hb:((s[k].toNat:Int)==46)=true:=by rw [hd]; rfl
    have HD:=Lib.hid hd;clear hd
    go_wp2_with (at_builtin; refine wpList_append_own _ rfl _ _ 32 rfl w.heap.size 9 i0 (.string ⟨#[]⟩) 1 16 Tryz.underlying32 hi F8 jG gg rfl (by decide) _ _ _ rfl (bC.alloc _) ⟨wr.heap.size,0,none⟩ 1 1 [.string ⟨#[]⟩] rfl rfl (cell_one_new _ _ _) (by simp [Value.oneCell']) ?c3 ?c4 ?c5 ?_)
    case c3=>simp; unfold maxLen; omega
    case c4=>simp; omega
    case c5=>simp; have:=hx.size; omega
    intro v' w1 LD LF _;have hX:=(hx.alloc (.cells #[.string ⟨#[]⟩] 9)).grown LF (fun j e=>by cases e; exact kz.1);have H1:=Lib.hid LD;clear LD LF bC
    go_wp2
    go_roundw
    case rel =>
     refine ⟨k+1,ys++[x]++[⟨#[]⟩],by omega,by go_num,by simp; omega,by simpa using H1.out,hX,(⟨?_,?_⟩:_∧_)⟩
     ·rw [Nm.Lw _ k _ LC.out HD.out,← I.out.1]; simp
     ·intro z hz;simp only [List.mem_append,List.mem_singleton] at hz;rcases hz with hz | rfl
      ·have:=I.out.2 z (by simpa using hz); omega
      ·exact Nat.zero_le _
    case measure=>simp [intOf]; omega
   ·have hb:((s[k].toNat:Int)==46)=false:=by
     simp only [beq_eq_false_iff_ne];intro e; apply hd; apply UInt8.toNat.inj; show _=46; omega
    have HD:=Lib.hid hd;clear hd;have hc:=bC.cellAt ys.length (by simp);have rW:wr.cell? ⟨g,ys.length,none⟩=some (.string x):=by rw [hc]; simp
    have hf:=bC.frozenAt ys.length;clear hc;have n':x.size≤k:=I.out.2 x (by simp);have jg:(s.extract k (k+1)).size≤1:=by rw [ByteArray.size_extract]; omega
    have BU:∀ W,(Op.stringOp .add x (s.extract k (k+1))).run Tryz.prog W = .ok (.string (x++s.extract k (k+1))) W:=fun W=>run_string_add_sum W _ _ (by omega);have TU:=Lib.hid (Nm.TT s k ai)
    go_wp2
    go_region
    have aR:=bC.stored ys.length (.string (x++s.extract k (k+1)));have H1:=Lib.hid aR.1.drew;have hX:Ext w (wr.setCell ⟨g,ys.length,none⟩ (.string (x++s.extract k (k+1)))).drew:=(hx.setCell kz.1 _).drew;clear aR bC rW hf BU
    go_wp2
    go_roundw
    case rel =>
     have fQ:Nm.split ((az s).take k)=ys.map az++[az x]:=by rw [← I.out.1]; simp
     refine ⟨k+1,ys++[x++s.extract k (k+1)],by omega,by go_num,by simp; omega,?_,hX,(⟨?_,?_⟩:_∧_)⟩
     ·have h1:=H1.out;simp only [List.map_append,List.map_cons,List.map_nil] at h1;rw [List.set_append_right _ _ (by simp)] at h1
      simpa using h1
     ·rw [Nm.Lx _ k _ LC.out HD.out _ _ fQ];simp [az];have:=TU.out
      simpa [az] using this
     ·intro z hz;simp only [List.mem_append,List.mem_singleton] at hz;rcases hz with hz | rfl
      ·have:=I.out.2 z (by simp [hz]); omega
      ·rw [ByteArray.size_append]; omega
    case measure=>simp [intOf]; omega
  ·obtain rfl:k=s.size:=by omega
   have F9:=Joins.ownsRow_forms bC
   go_wp2
   go_ret
   refine ⟨_,xs,rfl,?_,oC.Lv bC rfl (fun i z hz=>?_),hx⟩
   ·show xs.map az=_;rw [I.out.1,List.take_of_length_le (Nat.le_of_eq (Nm.len s))]
   ·have hi:=(List.getElem?_eq_some_iff.1 hz);refine ⟨?_,?_⟩
    ·rw [Nat.mul_one,List.drop_eq_getElem_cons (by simpa using hi.1)];simp [hi.2]
    ·have:=I.out.2 z (List.mem_of_getElem? hz); unfold maxLen; omega
end Go.Proofs.YtcmnpelmmekdkaaGreatDoor
end
section
namespace Go.Proofs.YtcmnpelmmekdkaaGreatDoor
open Go.RowKit
theorem oC.strs {w:World} {v:Value} {xs:List ByteArray} (h:oC F6 1 w v xs):∃ a cap,v = .slice a xs.length cap∧xs.length≤cap∧cap≤maxLen ∧
  ∀ (i:Nat) (x:ByteArray),xs[i]? = some x→∃ b off,a=some ⟨b,off,none⟩∧w.cell? ⟨b,off+i,none⟩=some (.string x)∧x.size≤maxLen:=by
 obtain ⟨a,cap,h1,h2,h3,_,h5⟩:=h;refine ⟨a,cap,h1,h2,h3,fun i x hi=>?_⟩;obtain ⟨b,off,cs,g1,g2,g3,g4,g5⟩:=h5 i x hi;subst g4;have:=g3 0 _ rfl;rw [Nat.mul_one,Nat.add_zero] at this;exact ⟨b,off,g1,this,g5⟩
theorem zC (a b:ByteArray):(a.toList==b.toList)=decide (az a=az b):=by
 rw [ByteArray.toList_eq,ByteArray.toList_eq,Bool.eq_iff_iff]; simp only [beq_iff_eq,decide_eq_true_eq]
def Nm.jR (ls:List (List UInt8)) (i:Nat):Bool:=match ls[i]? with
 |some x=>Nm.label x||(decide (i=0)&&decide (x=[42]))
 |none=>true
theorem Nm.px (ls:List (List UInt8)):Nm.parts ls=true↔ls.length≤8∧∀ i,i<ls.length→Nm.jR ls i=true:=by
 cases ls with
 |nil=>simp [Nm.parts]
 |cons x t =>
  simp only [Nm.parts,Bool.and_eq_true,decide_eq_true_eq,Bool.or_eq_true,beq_iff_eq,List.all_eq_true];constructor
  ·rintro ⟨h1,h2,h3⟩;refine ⟨h1,fun i hi=>?_⟩;cases i with
   |zero=>simp [Nm.jR]; exact h2
   |succ j =>
    have hj:j<t.length:=by simpa using hi
    simp only [Nm.jR,List.getElem?_cons_succ,List.getElem?_eq_getElem hj];simp [h3 _ (List.getElem_mem hj)]
  ·rintro ⟨h1,h2⟩;refine ⟨h1,?_,fun y hy=>?_⟩
   ·have:=h2 0 (by simp); simpa [Nm.jR] using this
   ·obtain ⟨j,hj,rfl⟩:=List.getElem_of_mem hy;have:=h2 (j+1) (by simpa using hj)
    simpa [Nm.jR,List.getElem?_eq_getElem hj] using this
theorem Nm.LG (ls:List (List UInt8)) (k:Nat) (h:k<ls.length) (hk:Nm.jR ls k=false):Nm.parts ls=false:=by
 rw [← Bool.not_eq_true,Nm.px];rintro ⟨_,g⟩;rw [g k h] at hk; cases hk
theorem Nm.TV (ls:List (List UInt8)) (h:∀ i,i<ls.length→Nm.jR ls i=true):Nm.parts ls=decide (ls.length≤8):=by
 rw [Bool.eq_iff_iff,Nm.px]; simp only [decide_eq_true_eq];exact ⟨fun g=>g.1,fun g=>⟨g,h⟩⟩
theorem Nm.LH (l:List UInt8) (h:¬ l=[46]) (hl:60<l.length):Nm.valid l=false:=by
 simp only [Nm.valid,h,decide_false,Bool.false_or,Bool.and_eq_false_iff,decide_eq_false_iff_not]; omega
theorem Nm.LI (l:List UInt8) (h:¬ l=[46]) (hl:l.length≤60):Nm.valid l=Nm.parts (Nm.split l):=by
 simp only [Nm.valid,h,decide_false,Bool.false_or,hl,decide_true,Bool.true_and]
set_option maxHeartbeats 800000 in
theorem TW (s:ByteArray) (w:World) (hs:s.size≤maxLen) :
  Calls Tryz.prog 24 #[.string s] w fun e w'=>e = .returned (.bool (Nm.valid (az s)))∧Ext w w':=by
 unfold maxLen at hs;have hlen:=Nm.len s;by_cases hr:az s=[46]
 ·have hb:(s.toList==[46])=true:=by rw [ByteArray.toList_eq]; simp only [beq_iff_eq]; exact hr
  have hv:Nm.valid (az s)=true:=by simp [Nm.valid,hr]
  have HV:=Lib.hid hv;clear hv hr hlen
  go_enter Tryz.func24,Tryz.ntmps24
  go_wp2
  go_ret
  exact ⟨by rw [HV.out]; rfl,Ext.refl _⟩
 ·have hb:(s.toList==[46])=false:=by rw [ByteArray.toList_eq]; simp only [beq_eq_false_iff_ne]; exact hr
  by_cases uF:s.size≤60
  ·have HV:=Lib.hid (Nm.LI (az s) hr (by rw [hlen]; exact uF));clear hr hlen
   go_enter Tryz.func24,Tryz.ntmps24
   go_wp2_with fail
   refine (LA s _ (by omega)).mono ?_;rintro e w1 ⟨v,xs,rfl,fQ,iU,hX⟩;obtain ⟨a,cap,rfl,F',Ck,dH⟩:=iU.strs;have Ga:=Lib.hid dH;have qV:=Lib.hid fQ;have tD:(Nm.split (az s)).length=xs.length:=by rw [← fQ]; simp
   have Cl:=Lib.hid tD;unfold maxLen at Ck;clear dH fQ iU tD
   go_wp2_with fail
   go_loop [4] (fun i=>∃ k:Nat,k≤xs.length∧i = .int .i64 k∧Hid (∀ j,j<k→Nm.jR (Nm.split (az s)) j=true)) (fun i=>xs.length - (intOf i).toNat)
   case atStart=>exact ⟨0,Nat.zero_le _,rfl,(fun j hj=>by omega:∀ j,j<0→Nm.jR (Nm.split (az s)) j=true)⟩
   case round =>
    obtain ⟨k,hk,rfl,I⟩:=hrel;by_cases ai:k<xs.length
    ·obtain ⟨x,uG⟩:∃ x,xs[k]? = some x:=⟨_,List.getElem?_eq_getElem ai⟩;obtain ⟨b,off,rfl,hc,lh⟩:=Ga.out k x uG;have aK:Nm.jR (Nm.split (az s)) k=(Nm.label (az x)||(decide (k=0)&&decide (az x=[42]))):=by
      rw [← qV.out]; simp [Nm.jR,List.getElem?_map,uG]
     have Cm:=Lib.hid aK;clear aK uG;have zD:(x.toList==[42])=decide (az x=[42]):=by rw [ByteArray.toList_eq,Bool.eq_iff_iff]; simp only [beq_iff_eq,decide_eq_true_eq]
     have LJ:=Lib.hid zD;clear zD;cases py:Nm.label (az x)
     ·have sB:=Lib.hid py;clear py;by_cases h0:0<k
      ·have Gb:Hid (Nm.jR (Nm.split (az s)) k=false):=by
        have h1:=Cm.out;rw [sB.out,show decide (k=0)=false by simp; omega] at h1;exact h1
       go_wp2_with fail
       refine (Ci x _ lh).mono ?_;rintro e w' ⟨rfl,rfl⟩;rw [sB.out]
       go_wp2_with fail
       go_ret
       exact ⟨by rw [HV.out,Nm.LG _ k (by rw [Cl.out]; exact ai) Gb.out]; rfl,hX⟩
      ·cases aR:(x.toList==[42])
       ·have Gb:Hid (Nm.jR (Nm.split (az s)) k=false):=by
         have h1:=Cm.out;rw [sB.out,← LJ.out,aR,Bool.and_false] at h1;exact h1
        have aJ:(x.toList != [42])=true:=by simp only [bne,aR]; rfl
        go_wp2_with fail
        refine (Ci x _ lh).mono ?_;rintro e w' ⟨rfl,rfl⟩;rw [sB.out]
        go_wp2_with fail
        go_ret
        exact ⟨by rw [HV.out,Nm.LG _ k (by rw [Cl.out]; exact ai) Gb.out]; rfl,hX⟩
       ·have Gc:Hid (Nm.jR (Nm.split (az s)) k=true):=by
         have h1:=Cm.out;rw [sB.out,← LJ.out,aR,show decide (k=0)=true by simp; omega] at h1;exact h1
        have aJ:(x.toList != [42])=false:=by simp only [bne,aR]; rfl
        go_wp2_with fail
        refine (Ci x _ lh).mono ?_;rintro e w' ⟨rfl,rfl⟩;rw [sB.out]
        go_wp2_with fail
        go_round
        case rel=>exact ⟨k+1,by omega,by go_num,Nm.zA I.out Gc.out⟩
        case measure=>simp [intOf]; omega
     ·have Gc:Hid (Nm.jR (Nm.split (az s)) k=true):=by
       have h1:=Cm.out;rw [py] at h1;exact h1
      have sB:=Lib.hid py;clear py
      go_wp2_with fail
      refine (Ci x _ lh).mono ?_;rintro e w' ⟨rfl,rfl⟩;rw [sB.out]
      go_wp2_with fail
      go_round
      case rel=>exact ⟨k+1,by omega,by go_num,Nm.zA I.out Gc.out⟩
      case measure=>simp [intOf]; omega
    ·obtain rfl:k=xs.length:=by omega
     go_wp2_with fail
     go_ret
     exact ⟨mq (by rw [HV.out,Nm.TV _ (by rw [Cl.out]; exact I.out),Cl.out,Bool.eq_iff_iff]; simp; try omega),hX⟩
  ·have HV:=Lib.hid (Nm.LH (az s) hr (by rw [hlen]; omega));clear hr hlen
   go_enter Tryz.func24,Tryz.ntmps24
   go_wp2_with fail
   go_ret
   exact ⟨by rw [HV.out]; rfl,Ext.refl _⟩
set_option maxHeartbeats 800000 in
theorem LK (s:ByteArray) (w:World) (hs:s.size≤1000) :
  Calls Tryz.prog 47 #[.string s] w (Ly (oC F6 1) (fun xs:List ByteArray=>xs.map az=Nm.labels (az s)) w):=by
 by_cases hr:az s=[46]
 ·have hb:(s.toList==[46])=true:=by rw [ByteArray.toList_eq]; simp only [beq_iff_eq]; exact hr
  have HR:=Lib.hid hr;clear hr
  go_enter Tryz.func47,Tryz.ntmps47
  go_wp2
  go_ret
  exact ⟨_,[],rfl,by simp [Nm.labels,HR.out],oC.Lv (World.ownsRow_nil _ 0 0 1) rfl (fun i x hi=>by simp at hi),Ext.refl _⟩
 ·have hb:(s.toList==[46])=false:=by rw [ByteArray.toList_eq]; simp only [beq_eq_false_iff_ne]; exact hr
  have HR:=Lib.hid hr;clear hr
  go_enter Tryz.func47,Tryz.ntmps47
  go_wp2_with fail
  refine (LA s _ hs).mono ?_;rintro e w1 ⟨v,xs,rfl,fQ,iU,hX⟩;have qV:=Lib.hid fQ;clear fQ
  go_wp2_with fail
  go_ret
  exact ⟨v,xs,rfl,by show xs.map az=_; rw [qV.out]; simp [Nm.labels,HR.out],iU,hX⟩
set_option maxHeartbeats 800000 in
theorem TX (s:ByteArray) (w:World) (hs:s.size≤maxLen) :
  Calls Tryz.prog 186 #[.string s] w fun e w'=>e = .returned (.bool (Nm.gJ (az s)))∧w=w':=by
 unfold maxLen at hs;by_cases h0:0<s.size
 ·have hh:Nm.gJ (az s)=decide ((s[0].toNat:Int)=42):=by
   have e:az s=s[0]::(az s).tail:=by
    have hk:0<s.data.toList.length:=by rw [Nm.len]; exact h0
    conv=>lhs; rw [show az s=s.data.toList from rfl,← List.drop_zero (l:=s.data.toList),List.drop_eq_getElem_cons hk]
    simp [az]; rfl
   rw [e];simp only [Nm.gJ];rw [Bool.eq_iff_iff]; simp only [beq_iff_eq,decide_eq_true_eq];constructor
   ·intro e; rw [e]; rfl
   ·intro e; apply UInt8.toNat.inj; show _=42; omega
  have HH:=Lib.hid hh;clear hh
  go_enter Tryz.func186,Tryz.ntmps186
  go_wp2
  go_ret
  exact ⟨mq (by rw [HH.out,Bool.eq_iff_iff]; simp),rfl⟩
 ·have hh:Nm.gJ (az s)=false:=by
   have:az s=[]:=List.eq_nil_of_length_eq_zero (by rw [Nm.len]; omega);rw [this]; rfl
  have HH:=Lib.hid hh;clear hh
  go_enter Tryz.func186,Tryz.ntmps186
  go_wp2
  go_ret
  exact ⟨by rw [HH.out]; rfl,rfl⟩
theorem Nm.Gd (m l:List (List UInt8)):m <:+ l↔m.length≤l.length∧∀ i,i<m.length→l[l.length - m.length+i]? = m[i]? := by
 constructor
 ·rintro ⟨p,rfl⟩;refine ⟨by simp,fun i hi=>?_⟩;rw [show (p++m).length - m.length+i=p.length+i by simp,List.getElem?_append_right (by omega)]
  congr 1; omega
 ·rintro ⟨h1,h2⟩;refine ⟨l.take (l.length - m.length),?_⟩;conv=>rhs; rw [← List.take_append_drop (l.length - m.length) l]
  congr 1
  apply List.ext_getElem?;intro i;rw [List.getElem?_drop];by_cases hi:i<m.length
  ·rw [h2 i hi]
  ·rw [List.getElem?_eq_none (by omega),List.getElem?_eq_none (by omega)]
set_option maxHeartbeats 800000 in
theorem TY (s z:ByteArray) (w:World) (hs:s.size≤1000) (hz:z.size≤1000) :
  Calls Tryz.prog 157 #[.string s,.string z] w fun e w'=>e = .returned (.bool (Nm.under (az s) (az z)))∧Ext w w':=by
 go_enter Tryz.func157,Tryz.ntmps157
 go_wp2_with fail
 refine (LK s _ hs).mono ?_;rintro e w1 ⟨v,xs,rfl,fQ,iU,hX⟩;have qV:=Lib.hid fQ;obtain ⟨a,cap,rfl,F',Ck,dH⟩:=iU.strs
 go_wp2_with fail
 refine (LK z _ hz).mono ?_;rintro e w2 ⟨v2,zs,rfl,LL,LM,LN⟩;have zE:=Lib.hid LL;obtain ⟨a2,ach,rfl,aci,TZ,LO⟩:=LM.strs;have Ga:=Lib.hid dH;have T0:=Lib.hid LO;unfold maxLen at Ck TZ;clear dH LO fQ LL iU LM;have Ge:=hX.trans LN;by_cases hle:zs.length≤xs.length
 ·go_wp2_with fail
  go_loopw [7] (fun i wr=>∃ k:Nat,k≤zs.length∧i = .int .i64 k∧Ext w2 wr∧Hid (∀ j,j<k→xs[xs.length - zs.length+j]? = zs[j]?)) (fun i _=>zs.length - (intOf i).toNat)
  case atStart=>exact ⟨0,Nat.zero_le _,rfl,Ext.refl _,(fun j hj=>by omega:∀ j,j<0→xs[xs.length - zs.length+j]? = zs[j]?)⟩
  case round =>
   obtain ⟨k,hk,rfl,hx,I⟩:=hrel;by_cases ai:k<zs.length
   ·obtain ⟨x,uG⟩:∃ x,xs[xs.length - zs.length+k]? = some x:=⟨_,List.getElem?_eq_getElem (by omega)⟩;obtain ⟨y,Gf⟩:∃ y,zs[k]? = some y:=⟨_,List.getElem?_eq_getElem ai⟩;obtain ⟨b,off,rfl,hc,lh⟩:=Ga.out _ x uG;obtain ⟨b2,acj,rfl,nB,Gg⟩:=T0.out _ y Gf;have rW:=hx.keep (LN.keep hc);have ack:=hx.keep nB;have i1:(0:Int)≤(xs.length:Int) - (zs.length:Int)+(k:Int):=by omega
    have i2:(xs.length:Int) - (zs.length:Int)+(k:Int)<(xs.length:Int):=by omega
    have i3:((xs.length:Int) - (zs.length:Int)+(k:Int)).toNat=xs.length - zs.length+k:=by omega
    have i4:IntKind.i64.wrap ((xs.length:Int) - (zs.length:Int))=(xs.length:Int) - (zs.length:Int):=IntWalk.i64_in _ (by omega);have i5:IntKind.i64.wrap ((xs.length:Int) - (zs.length:Int)+(k:Int))=(xs.length:Int) - (zs.length:Int)+(k:Int):=IntWalk.i64_in _ (by omega);have HX:=Lib.hid uG;have HY:=Lib.hid Gf;clear uG Gf hc nB;have i6:(0:Int)≤(k:Int):=by omega
    have i7:(k:Int)<(zs.length:Int):=by omega
    go_wp2_with fail
    go_quiet (fail)
    clear i1 i2 i3 i4 i5 i6 i7
    go_wp2_with fail
    ·have aJ:¬ (az x=az y):=by
      have h:(!x.toList==y.toList)=true:=by assumption
      rw [zC] at h; simpa using h
     go_ret
     refine ⟨mq ?_,Ge.trans (hx.drewN _)⟩;symm;simp only [Nm.under,decide_eq_false_iff_not,Nm.Gd];rintro ⟨_,h⟩;have zF:(Nm.labels (az s)).length=xs.length:=by rw [← qV.out]; simp
     have Cn:(Nm.labels (az z)).length=zs.length:=by rw [← zE.out]; simp
     have:=h k (by rw [Cn]; exact ai);rw [zF,Cn,← qV.out,← zE.out,List.getElem?_map,List.getElem?_map,HX.out,HY.out] at this;simp at this;exact aJ (by rw [show az x=x.data.toList from rfl,this])
    ·have heq:az x=az y:=by
      have h:(!x.toList==y.toList)=false:=by assumption
      rw [zC] at h; simpa using h
     refine ⟨⟨k+1,by omega,by go_num,hx.drewN _,(fun j hj=>?_:∀ j,j<k+1→xs[xs.length - zs.length+j]? = zs[j]?)⟩,by simp [intOf]; omega⟩;by_cases e:j=k
     ·subst e; rw [HX.out,HY.out,zB heq]
     ·exact I.out j (by omega)
   ·obtain rfl:k=zs.length:=by omega
    go_wp2_with fail
    go_ret
    refine ⟨mq ?_,Ge.trans hx⟩;symm;simp only [Nm.under,decide_eq_true_eq,Nm.Gd];have zF:(Nm.labels (az s)).length=xs.length:=by rw [← qV.out]; simp
    have Cn:(Nm.labels (az z)).length=zs.length:=by rw [← zE.out]; simp
    refine ⟨by omega,fun i hi=>?_⟩;rw [zF,Cn,← qV.out,← zE.out,List.getElem?_map,List.getElem?_map,I.out i (by omega)]
 ·go_wp2_with fail
  go_ret
  refine ⟨mq ?_,Ge⟩;symm;simp only [Nm.under,decide_eq_false_iff_not,Nm.Gd];rintro ⟨h,_⟩;rw [← qV.out,← zE.out] at h;simp at h; omega
theorem Nm.T1 (l:List UInt8) (h:Nm.valid l=true):l.length≤60:=by
 simp only [Nm.valid,Bool.or_eq_true,decide_eq_true_eq,Bool.and_eq_true] at h;rcases h with h | h
 ·rw [h]; simp
 ·exact h.1
theorem Nm.wS (s:ByteArray) (h:Nm.valid (az s)=true):s.size≤60:=by
 have:=Nm.T1 _ h
 rwa [show (az s).length=s.size from Nm.len s] at this
def Nm.mL (s z:List UInt8):Bool:=Nm.valid s&&Nm.valid z&&Nm.under s z
end Go.Proofs.YtcmnpelmmekdkaaGreatDoor
end
section
namespace Go.Proofs.YtcmnpelmmekdkaaGreatDoor
open Go.RowKit
theorem Nm.toNat_eq (c d:UInt8):((c.toNat:Int)=(d.toNat:Int))↔c=d:=by
 constructor
 ·intro e; apply UInt8.toNat.inj; omega
 ·intro e; rw [e]
set_option maxHeartbeats 1000000 in
theorem Gh (s:ByteArray) (w:World) :
  Calls Tryz.prog 112 #[.string s] w fun e w'=>e = .returned (.bool (Nm.label (az s)))∧w=w':=by
 have hlen:=Nm.len s;have pw:Hid ((az s).length=s.size):=hlen;clear hlen;by_cases hz:1≤s.size∧s.size≤12
 ·obtain ⟨z1,z2⟩:=hz;have p0:0<s.size:=by omega
  have p1:s.size - 1<s.size:=by omega
  have e0:((s[0]'p0).toNat:Int)=45→false=Nm.label (az s):=fun h=>by
   refine Nm.Ch _ 0 (by rw [pw.out]; omega) (fun g=>?_);have:=(Nm.Cg s 0 (by omega)).1 g;omega
  have e1:((s[s.size - 1]'p1).toNat:Int)=45→false=Nm.label (az s):=fun h=>by
   refine Nm.Ch _ (s.size - 1) (by rw [pw.out]; omega) (fun g=>?_);have:=(Nm.Cg s (s.size - 1) (by omega)).1 g;omega
  have E0:=Lib.hid e0;have E1:=Lib.hid e1;clear e0 e1;by_cases h0:((s[0]'p0).toNat:Int)=45
  ·have hb:(((s[0]'p0).toNat:Int)==45)=true:=by simp [h0]
   have F:=Lib.hid (E0.out h0);clear h0
   go_enter Tryz.func112,Tryz.ntmps112
   go_wp2
   go_ret
   exact ⟨mq F.out,rfl⟩
  ·have hb:(((s[0]'p0).toNat:Int)==45)=false:=by simp [h0]
   by_cases h1:((s[s.size - 1]'p1).toNat:Int)=45
   ·have jl:(((s[s.size - 1]'p1).toNat:Int)==45)=true:=by simp [h1]
    have F:=Lib.hid (E1.out h1);clear h1 h0
    go_enter Tryz.func112,Tryz.ntmps112
    go_wp2
    go_ret
    exact ⟨mq F.out,rfl⟩
   ·have jl:(((s[s.size - 1]'p1).toNat:Int)==45)=false:=by simp [h1]
    have H0:=Lib.hid h0;have H1:=Lib.hid h1;clear h0 h1
    go_enter Tryz.func112,Tryz.ntmps112
    go_wp2
    go_loop [28] (fun i=>∃ k:Nat,k≤s.size∧i = .int .i64 k∧Hid (∀ j,j<k→Nm.nD (az s) j=true)) (fun i=>s.size - (intOf i).toNat)
    case atStart=>exact ⟨0,Nat.zero_le _,rfl,(fun j hj=>by omega:∀ j,j<0→Nm.nD (az s) j=true)⟩
    case round =>
     obtain ⟨k,hk,rfl,I⟩:=hrel;clear hb jl;by_cases ai:k<s.size
     ·have HL:Hid (Nm.nD (az s) k=true↔_):=Nm.Cg s k ai;have T2:Hid (((s[k]'ai).toNat:Int)=45→0<k∧k+1<s.size):=fun h=>by
       refine ⟨?_,?_⟩
       ·rcases Nat.eq_zero_or_pos k with rfl | h'
        ·exact absurd h H0.out
        ·exact h'
       ·rcases Nat.lt_or_ge (k+1) s.size with h' | h'
        ·exact h'
        ·obtain rfl:k=s.size - 1:=by omega
         exact absurd h H1.out
      by_cases hc:((s[k]'ai).toNat:Int)=45
      ·have aJ:(((s[k]'ai).toNat:Int) != 45)=false:=by simp [hc]
       have HC:=Lib.hid hc;clear hc
       go_wp2
       all_goals
        refine ⟨⟨k+1,by omega,by go_num,?_⟩,by simp [intOf]; omega⟩;have T3:=T2.out HC.out;exact Nm.zA I.out (HL.out.2 (.inr (.inr ⟨HC.out,T3⟩)))
      ·have aJ:(((s[k]'ai).toNat:Int) != 45)=true:=by simp [hc]
       have HC:=Lib.hid hc;clear hc
       go_wp2
       all_goals first
        |(exfalso; omega)
        |(refine ⟨⟨k + 1, by omega, by go_num, ?_⟩, by simp [intOf]; omega⟩
          exact Nm.zA I.out (HL.out.2 (by omega)))
        |(have hc := HC.out
          go_ret
          exact ⟨mq (Nm.Ch (az s) k (by rw [pw.out]; exact ai) (fun h => absurd (HL.out.1 h) (by omega))), rfl⟩)
     ·obtain rfl:k=s.size:=by omega
      go_wp2
      go_ret
      exact ⟨mq (by rw [Nm.Lu (az s) (by rw [pw.out]; exact I.out),pw.out]; simp; omega),rfl⟩
 ·have F:Hid (false=Nm.label (az s)):=by
   show false=Nm.label (az s);symm;simp only [Nm.label,decide_eq_false_iff_not];rintro ⟨g1,g2,_⟩;rw [pw.out] at g1 g2;omega
  go_enter Tryz.func112,Tryz.ntmps112
  go_wp2
  all_goals first
   |(exfalso; omega)
   |(go_ret
     exact ⟨mq F.out, rfl⟩)
def Nm.Gi (s:ByteArray) (c:UInt8) (r:Int):Prop := -1≤r∧r<s.size∧(∀ (h:r.toNat<s.size),0≤r→s[r.toNat]'h=c)∧∀ (j:Nat) (h:j<s.size),r<j→s[j]'h≠c
def LQ (s:ByteArray) (c:UInt8) (w:World) (e:Ending) (w':World):Prop:=∃ r:Int,e = .returned (.int .i64 r)∧Nm.Gi s c r∧w=w'
set_option maxHeartbeats 800000 in
theorem T4 (s:ByteArray) (c:UInt8) (w:World) (hs:s.size≤maxLen) :
  Calls Tryz.prog 219 #[.string s,.int .u8 c.toNat] w (LQ s c w):=by
 unfold maxLen at hs
 go_enter Tryz.func219,Tryz.ntmps219
 go_wp2
 go_loop [5] (fun i=>∃ k:Int,-1≤k∧k<s.size∧i = .int .i64 k∧Hid (∀ (j:Nat) (h:j<s.size),k<j→s[j]'h≠c)) (fun i=>((intOf i)+1).toNat)
 case atStart=>exact ⟨_,by omega,by omega,rfl,(fun j h hj=>by omega:∀ (j:Nat) (h:j<s.size),(s.size:Int) - 1<j→s[j]'h≠c)⟩
 case round =>
  obtain ⟨k,gu,lj,rfl,I⟩:=hrel;by_cases h0:0≤k
  ·obtain ⟨m,rfl⟩:=Int.eq_ofNat_of_zero_le h0;have hm:m<s.size:=by omega
   by_cases hc:s[m]'hm=c
   ·have hb:(((s[m]'hm).toNat:Int)==(c.toNat:Int))=true:=by rw [hc]; simp
    have HC:=Lib.hid hc;clear hc
    go_wp2
    go_ret
    exact ⟨_,rfl,⟨by omega,by omega,fun _ _=>HC.out,I.out⟩,rfl⟩
   ·have hb:(((s[m]'hm).toNat:Int)==(c.toNat:Int))=false:=by simp only [beq_eq_false_iff_ne,ne_eq,Nm.toNat_eq]; exact hc
    have HC:=Lib.hid hc;clear hc
    go_wp2
    go_round
    case rel =>
     refine ⟨(m:Int) - 1,by omega,by omega,rfl,(fun j h hj=>?_:∀ (j:Nat) (h:j<s.size),(m:Int) - 1<j→s[j]'h≠c)⟩;by_cases e:j=m
     ·subst e; exact HC.out
     ·exact I.out j h (by omega)
    case measure=>simp [intOf]
  ·obtain rfl:k = -1:=by omega
   go_wp2
   go_ret
   exact ⟨-1,rfl,⟨by omega,by omega,(fun _ h=>by omega),I.out⟩,rfl⟩
set_option maxHeartbeats 400000 in
theorem LR (s:ByteArray) (c:UInt8) (w:World) (hs:s.size≤maxLen) :
  Calls Tryz.prog 171 #[.string s,.int .u8 c.toNat] w (LQ s c w):=by
 go_enter Tryz.func171,Tryz.ntmps171
 go_wp2_with fail
 refine (T4 s c _ hs).mono ?_;rintro e w' ⟨r,rfl,hr,rfl⟩;have HR:=Lib.hid hr;clear hr
 go_wp2_with fail
 go_ret
 exact ⟨r,rfl,HR.out,rfl⟩
theorem Nm.Co (s:ByteArray) (n:Nat):az (s.extract 0 n)=(az s).take n:=by
 show (s.extract 0 n).data.toList=_;rw [ByteArray.data_extract,Array.toList_extract,List.extract_eq_take_drop]; simp
theorem Nm.Cp (s:ByteArray) (n:Nat):az (s.extract n s.size)=(az s).drop n:=by
 show (s.extract n s.size).data.toList=_;rw [ByteArray.data_extract,Array.toList_extract,List.extract_eq_take_drop,List.take_of_length_le];rw [List.length_drop,Nm.len]; exact Nat.le_refl _
set_option maxHeartbeats 400000 in
theorem T5 (s p:ByteArray) (w:World) (hs:s.size≤maxLen) (eF:p.size≤maxLen) :
  Calls Tryz.prog 208 #[.string s,.string p] w fun e w'=>e = .returned (.bool (decide (az p <:+ az s)))∧w=w':=by
 unfold maxLen at hs eF;by_cases hp:p.size≤s.size
 ·have hh:((s.extract (s.size - p.size) s.size).toList==p.toList)=decide (az p <:+ az s):=by
   rw [zC,Nm.Cp,Bool.eq_iff_iff];simp only [decide_eq_true_eq];rw [List.suffix_iff_eq_drop,show (az p).length=p.size from Nm.len p,show (az s).length=s.size from Nm.len s];exact eq_comm
  have HH:=Lib.hid hh;clear hh
  go_enter Tryz.func208,Tryz.ntmps208
  go_wp2
  go_ret
  exact ⟨mq HH.out,rfl⟩
 ·have hh:decide (az p <:+ az s)=false:=by
   simp only [decide_eq_false_iff_not];intro h;have:=h.length_le;rw [show (az p).length=p.size from Nm.len p,show (az s).length=s.size from Nm.len s] at this;omega
  have HH:=Lib.hid hh;clear hh
  go_enter Tryz.func208,Tryz.ntmps208
  go_wp2
  go_ret
  exact ⟨by rw [HH.out]; rfl,rfl⟩
set_option maxHeartbeats 400000 in
theorem LS (s p:ByteArray) (w:World) (hs:s.size≤maxLen) (eF:p.size≤maxLen) :
  Calls Tryz.prog 141 #[.string s,.string p] w fun e w'=>e = .returned (.bool (decide (az p <:+ az s)))∧w=w':=by
 generalize hd:decide (az p <:+ az s)=d;have HD:=Lib.hid hd;clear hd
 go_enter Tryz.func141,Tryz.ntmps141
 go_wp2_with fail
 refine (T5 s p _ hs eF).mono ?_;rintro e w' ⟨rfl,rfl⟩;rw [HD.out]
 go_wp2_with fail
 go_ret
 exact ⟨rfl,rfl⟩
end Go.Proofs.YtcmnpelmmekdkaaGreatDoor
end
section
namespace Go.Proofs.YtcmnpelmmekdkaaGreatDoor
open Go.RowKit Go.Shelf
variable {F:Fence} {n:Nat} {P:Program}
def LU {α:Type} (F:Fence) (n:Nat) (P:Program) (g:Nat) (fb lb:Array Value) (wT:α→Array Value) (Kp:World→World→Prop) (S Sp:List α→Prop) (N:Nat) (w:World):Prop :=
 ∀ (l:Nat) (J Jx:List α→World→Prop) (W:World),Below w.heap.size w W→AbidesFrom W.heap.size J→AbidesFrom W.heap.size Jx →
  (∀ pre x W1,J pre W1→pre.length<N→YieldAt F (n - 1) P l (wT x) W1 fun e W' =>
   (e = .returned (.bool true)∧J (pre++[x]) W'∧Kp W1 W')∨(e = .returned (.bool false)∧Jx (pre++[x]) W')) →
  J [] W →
  CallsIn F n P g (fb ++ #[.func (.yield l) #[] #[]]++lb) W fun e W'=>(∃ v,e = .returned v)∧((∃ xs,S xs∧J xs W')∨(∃ pre,Sp pre∧Jx pre W'))
theorem Gj {α:Type} {g:Operand} {ps:Array Tmp} {assign body:Code} {Q:Exit→Act→World→Prop} {a:Act} {w:World}
  (Gk:F.round=none) (h1:1≤n) {gf:Nat} {fb lb:Array Value} (hg:a.eval g = .func (.func gf) fb lb) (T6:F.fn gf) (eg:∀ args w,(callFunc gf args).run P w = .ok (.enter gf args) w)
  {wT:α→Array Value} {Kp:World→World→Prop} {S Sp:List α→Prop} {N:Nat} {w0:World} (T7:LU F (n - 1) P gf fb lb wT Kp S Sp N w0)
  (LW:∀ {A B C:World},Kp A B→Kp B C→Kp A C) (LX:∀ (W:World) (l:Nat) (o o':Obj),w.heap.size≤l→W.heap[l]? = some o→o.isCells=false→o.isWalk=false→Kp W (W.putObj l o')) (iG:Below w0.heap.size w0 w) (eF:∀ x,(wT x).size=ps.size)
  (I:List α→World→Prop) (Ix:Code→List α→World→Prop) (hI:OwnFrom w.heap.size I) (Gl:∀ c,OwnFrom w.heap.size (Ix c)) (h0:I [] w) (LY : α→Act)
  (T8:∀ (l:Nat) (x:α) (W:World) (K:Act→World→Prop),K (LY x) W →
   assign.wpIn (F.inRound l) (n - 1 - 1) P (Exit.then K (fun _ _ _=>False)) { tmps:=(ps.zip (wT x)).foldl (fun t (p,v)=>t.setIfInBounds p v) a.tmps,defers:=[] } W)
  (T9:∀ (l:Nat) (pre:List α) (x:α) (W:World),I pre W→pre.length<N→body.wpIn (F.inRound l) (n - 1 - 1) P (ownPostK Kp I Ix (pre++[x]) W) (LY x) W)
  (T':∀ (D:Nat) (xs:List α) (W:World),w.heap.size≤D→S xs→I xs W→W.heap[D]? = some (.deferred (some []))→Q .normal { a with defers:={ target := .collected D,args := #[] }::a.defers } W)
  (Ua:∀ (D:Nat) (c:Code) (pre:List α) (W:World),w.heap.size≤D→Sp pre→Ix c pre W→W.heap[D]? = some (.deferred (some []))→c.wpIn F n P Q { a with defers:={ target := .collected D,args := #[] }::a.defers } W) :
  (Code.rangeFunc g ps assign body).wpIn F n P Q a w:=by
 refine wpIn_rangeFunc fun fn od=>?_;rw [Gk]
 let Gm:LoopState→Option Code→Loop:=fun st pe=>{ state:=st,pending:=pe,fn,tmps:=a.tmps,params:=ps,assign,body,defers:=w.heap.size }
 have pA:∀ st pe,Gm st pe={ state:=st,pending:=pe,fn,tmps:=a.tmps,params:=ps,assign,body,defers:=w.heap.size }:=fun _ _=>rfl;generalize Gm=rc at pA;clear Gm;obtain ⟨W1,wU⟩:∃ W1,(w.alloc (.deferred (some []))).alloc (.loop (rc .ready none))=W1:=⟨_,rfl⟩;have wV:W1.heap[w.heap.size+1]? = some (.loop (rc .ready none)):=by
  have:=World.alloc_heap_new (w.alloc (.deferred (some []))) (.loop (rc .ready none));rw [World.size_alloc] at this; rw [← wU]; exact this
 have Ub:W1.heap[w.heap.size]? = some (.deferred (some [])):=by
  rw [← wU]; exact (Below.heap_alloc _ _ _ (by simp)).trans (World.alloc_heap_new w _)
 have acm:W1.heap.size=w.heap.size+1+1:=by rw [← wU]; simp
 have Uc:I [] W1:=by rw [← wU]; exact hI.alloc _ (hI.alloc _ h0)
 have Cq:Below w0.heap.size w0 W1:=by
  rw [← wU]; exact iG.trans ((((Below.refl _ w).alloc (Nat.le_refl _) _).alloc (by simp) _).mono iG.size)
 refine ⟨w.heap.size+1,[{ target := .collected w.heap.size,args := #[] }],W1,{ target := .fn (.func gf) lb,args:=fb ++ #[.func (.yield (w.heap.size+1)) #[] #[]] },W1,gf,
  fb ++ #[.func (.yield (w.heap.size+1)) #[] #[]]++lb,W1,?_,?_,?_,?_,fun _=>h1,?_⟩
 ·rw [← wU,pA]; exact run_enterLoop_outer _ _ _ _ _
 ·simp only [resolve,hg];simp [go_sem]
 ·intro f' qj; simp [Target.leads] at qj; subst qj; exact T6
 ·simp [invoke,go_sem,eg]
 have LZ:∀ {A:World} {row:Option Nat},(∀ r,row=some r→W1.heap.size≤r∧∃ o:Obj,A.heap[r]? = some o∧o.isWalk=true)→∀ r,row=some r→w.heap.size≤r∧∃ o:Obj,A.heap[r]? = some o∧o.isCells=false :=
  fun hr r e=>by obtain ⟨hB,o,ho,hw⟩:=hr r e; exact ⟨by omega,o,ho,Obj.not_cells_of_walk hw⟩
 refine (T7 (w.heap.size+1)
  (fun pre W=>I pre W∧W.heap[w.heap.size+1]? = some (.loop (rc .ready none))∧W.heap[w.heap.size]? = some (.deferred (some [])))
  (fun pre W=>∃ c,Ix c pre W∧W.heap[w.heap.size+1]? = some (.loop (rc .done (some c)))∧W.heap[w.heap.size]? = some (.deferred (some [])))
  W1 Cq
  (fun s A B row hs mH hr=>⟨hI s A B row hs.1 mH (LZ hr),(grownBy_keeps mH (fun r e=>(hr r e).2) hs.2.1 rfl).trans hs.2.1,(grownBy_keeps mH (fun r e=>(hr r e).2) hs.2.2 rfl).trans hs.2.2⟩)
  (fun s A B row ⟨c,hc,hl,hk⟩ mH hr=>⟨c,Gl c s A B row hc mH (LZ hr),(grownBy_keeps mH (fun r e=>(hr r e).2) hl rfl).trans hl,(grownBy_keeps mH (fun r e=>(hr r e).2) hk rfl).trans hk⟩)
  ?round ⟨Uc,wV,Ub⟩).mono ?behind
 case round =>
  rintro pre x W ⟨hi,hl,hk⟩ hlen;have ai:w.heap.size+1<W.heap.size:=(Array.getElem?_eq_some_iff.1 hl).1;have hy:=run_yield (P:=P) (args:=wT x) hl (by rw [pA]; exact eF x);rw [pA] at hy;refine ⟨fn,_,assign,body,hy,roundIn_of_wpIn od (T8 _ x W _ ⟨_,run_beginRound hl (by rw [pA]),?_⟩)⟩;generalize Ud:({ rc .ready none with state := .busy }:Loop)=bz;have rP:(W.putObj (w.heap.size+1) (.loop bz)).heap[w.heap.size+1]? = some (.loop bz):=World.putObj_heap_same ai;have lj:(W.putObj (w.heap.size+1) (.loop bz)).heap[w.heap.size]? = some (.deferred (some [])):=(World.putObj_heap_other (by omega)).trans hk;have Gn:Kp W (W.putObj (w.heap.size+1) (.loop bz)):=LX _ _ _ _ (by omega) hl rfl rfl;refine wpIn_mono (T9 _ pre x _ (hI.putObj _ hi (by omega) hl rfl) hlen) ?_;have fin:∀ (jump:Option Code) (W3:World),KeepsOthers (W.putObj (w.heap.size+1) (.loop bz)) W3 →
    (Instr.endRound (w.heap.size+1) jump).run P W3 = .ok (.bool jump.isNone) (W3.putObj (w.heap.size+1) (.loop (rc (if jump.isNone then .ready else .done) jump))) ∧
    W3.heap[w.heap.size+1]? = some (.loop bz) ∧
    (W3.putObj (w.heap.size+1) (.loop (rc (if jump.isNone then .ready else .done) jump))).heap[w.heap.size+1]? = some (.loop (rc (if jump.isNone then .ready else .done) jump)) ∧
    (W3.putObj (w.heap.size+1) (.loop (rc (if jump.isNone then .ready else .done) jump))).heap[w.heap.size]? = some (.deferred (some [])):=fun jump W3 uH=>by
   have qW:=uH.same _ _ rP rfl;have cR:=run_endRound (P:=P) jump (by rw [← Ud] at qW; exact qW);rw [pA] at cR ⊢;exact ⟨cR,qW,World.putObj_heap_same (Array.getElem?_eq_some_iff.1 qW).1,(World.putObj_heap_other (by omega)).trans (uH.same _ _ lj rfl)⟩
  have leave:∀ (c:Code) (W3:World),KeepsOthers (W.putObj (w.heap.size+1) (.loop bz)) W3→Ix c (pre++[x]) W3→∃ v W4,(Instr.endRound (w.heap.size+1) (some c)).run P W3 = .ok v W4 ∧
    v = .bool false∧∃ c',Ix c' (pre++[x]) W4∧W4.heap[w.heap.size+1]? = some (.loop (rc .done (some c')))∧W4.heap[w.heap.size]? = some (.deferred (some [])):=fun c W3 uH Gp=>by
   obtain ⟨hr,qW,Gq,Gr⟩:=fin (some c) W3 uH;exact ⟨_,_,hr,rfl,c,(Gl c).putObj _ Gp (by omega) qW rfl,Gq,Gr⟩
  rintro e a3 W3 hp;cases e with
  |normal =>
   obtain ⟨uH,Ue,Gp⟩:=hp;obtain ⟨hr,qW,Gq,Gr⟩:=fin none W3 uH;exact ⟨_,_,hr,.inl ⟨rfl,⟨hI.putObj _ Gp (by omega) qW rfl,Gq,Gr⟩,LW (LW Gn Ue) (LX _ _ _ _ (by omega) qW rfl rfl)⟩⟩
  |ret=>obtain ⟨v,W4,hr,rfl,c,h⟩:=leave .ret W3 hp.1 hp.2; exact ⟨_,W4,hr,.inr ⟨rfl,c,h⟩⟩
  |exit id=>obtain ⟨v,W4,hr,rfl,c,h⟩:=leave (.exit id) W3 hp.1 hp.2; exact ⟨_,W4,hr,.inr ⟨rfl,c,h⟩⟩
  |goto t=>obtain ⟨v,W4,hr,rfl,c,h⟩:=leave (.goto t) W3 hp.1 hp.2; exact ⟨_,W4,hr,.inr ⟨rfl,c,h⟩⟩
  |panic ch=>exact hp.elim
  |outgrown=>exact hp.elim
 case behind =>
  rintro e W2 ⟨⟨v,rfl⟩,(⟨xs,hS,hi,hl,hk⟩ | ⟨pre,Uf,c,hi,hl,hk⟩)⟩
  ·exact ⟨none,_,by have:=run_endLoop (P:=P) hl (by rw [pA]; simp); rw [pA] at this; exact this,T' _ xs _ (Nat.le_refl _) hS (hI.putObj _ hi (by omega) hl rfl) ((World.putObj_heap_other (by omega)).trans hk)⟩
  ·exact ⟨some c,_,by have:=run_endLoop (P:=P) hl (by rw [pA]; simp); rw [pA] at this; exact this,Ua _ c pre _ (Nat.le_refl _) Uf ((Gl c).putObj _ hi (by omega) hl rfl) ((World.putObj_heap_other (by omega)).trans hk)⟩
end Go.Proofs.YtcmnpelmmekdkaaGreatDoor
end
section
namespace Go.Proofs.YtcmnpelmmekdkaaGreatDoor
open Go.RowKit Go.Shelf
attribute [local go_sem] Oper.semAt_some
def bs (l:List UInt8):ByteArray:=⟨l.toArray⟩
theorem zG (l:List UInt8):az (bs l)=l:=by simp [az,bs]
theorem wW (s:ByteArray):bs (az s)=s:=zB (zG _)
def Nm.back (s:ByteArray):List ByteArray:=(Nm.labels (az s)).reverse.map bs
def L2:Value→Nat
 | .string s=>s.size
 |_=>0
def Nm.Ug (s:ByteArray) (xs:List ByteArray):Prop:=xs=Nm.back s
def Nm.Uh (s:ByteArray) (xs:List ByteArray):Prop:=xs <+: Nm.back s
theorem Nm.L3 (r:ByteArray) (h:Nm.Gi r 46 (-1)):46 ∉ az r:=by
 intro hm;obtain ⟨j,hj,e⟩:=List.getElem_of_mem hm;have dK:j<r.size:=by rw [show (az r).length=r.size from Nm.len r] at hj; exact hj
 exact h.2.2.2 j dK (by omega) e
theorem Nm.L4 (r:ByteArray) (m:Nat) (h:Nm.Gi r 46 m):Nm.split (az r)=Nm.split ((az r).take m)++[(az r).drop (m+1)]:=by
 obtain ⟨_,h2,h3,h4⟩:=h;have hm:m<r.size:=by omega
 have hl:(az r).length=r.size:=Nm.len r;have e:(az r)[m]'(by omega)=46:=h3 (by simpa using hm) (by omega);have hd:(az r).drop m=46::(az r).drop (m+1):=by rw [List.drop_eq_getElem_cons (by omega),e]
 have dQ:46 ∉ (az r).drop (m+1):=by
  intro fX;obtain ⟨j,hj,e⟩:=List.getElem_of_mem fX;rw [List.getElem_drop] at e;rw [List.length_drop] at hj;exact h4 (m+1+j) (by omega) (by omega) e
 conv=>lhs; rw [← List.take_append_drop m (az r),hd]
 rw [Nm.Cf,Nm.zw _ dQ]
set_option maxRecDepth 100000 in
set_option maxHeartbeats 1000000 in
theorem Gs (n:Nat) (hn:1≤n) (s:ByteArray) (hs:s.size≤maxLen) (w:World) :
  LU Fence.wide n Tryz.prog 111 #[.string s] #[] (fun x:ByteArray => #[.string x]) (fun _ _=>True) (Nm.Ug s) (Nm.Uh s) (Nm.back s).length w:=by
 intro l J Jx W hB hJ hJx hY h0;unfold maxLen at hs;refine callsIn_of_wp Tryz.func111 rfl trivial ?_ rfl;simp only [Tryz.ntmps111,List.size_toArray,List.length_cons,List.length_nil,Nat.reduceAdd,Nat.reduceSub,Array.replicate_succ,Array.replicate_zero,List.push_toArray,List.append_toArray,List.nil_append,List.cons_append];by_cases hr:az s=[46]
 ·have hb:(s.toList==[46])=true:=by rw [ByteArray.toList_eq]; simp only [beq_iff_eq]; exact hr
  have HB:Hid (Nm.back s=[]):=by show Nm.back s=[]; simp [Nm.back,Nm.labels,hr]
  have HY:=Lib.hid hY;clear hY hr
  gi_wp2
  refine bodyPost_ret (results_none rfl _ _ _) rfl ?_;exact ⟨⟨_,rfl⟩,.inl ⟨[],HB.out.symm,h0⟩⟩
 ·have hb:(s.toList==[46])=false:=by rw [ByteArray.toList_eq]; simp only [beq_eq_false_iff_ne]; exact hr
  have HB:Hid (Nm.back s=(Nm.split (az s)).reverse.map bs):=by show Nm.back s=_; simp [Nm.back,Nm.labels,hr]
  have HY:=Lib.hid hY;clear hY hr
  gi_wp2_with fail
  gi_loopw [4] (fun v wr=>∃ (pre:List ByteArray) (r:ByteArray),v = .string r∧r.size≤s.size∧J pre wr∧Hid (pre++(Nm.split (az r)).reverse.map bs=Nm.back s)) (fun v _=>L2 v)
  case atStart=>exact ⟨[],s,rfl,Nat.le_refl _,h0,(by rw [HB.out]; rfl:[]++(Nm.split (az s)).reverse.map bs=Nm.back s)⟩
  case round =>
   obtain ⟨pre,r,rfl,JJ,L5,I⟩:=hrel
   gi_wp2_with fail
   refine ⟨trivial,?_⟩;refine (callsIn_wide.2 (LR r 46 _ (by unfold maxLen; omega))).mono ?_;rintro e w' ⟨i,rfl,hi,rfl⟩;have HI:=Lib.hid hi;obtain ⟨tP,pB,_,_⟩:=hi;by_cases Gt:0≤i
   ·obtain ⟨m,rfl⟩:=Int.eq_ofNat_of_zero_le Gt;have fQ:=Nm.L4 r m HI.out;have hlen:pre.length<(Nm.back s).length:=by
     rw [← I.out,fQ]; simp
    obtain ⟨fn,tmps,assign,body,hy,hR⟩:=HY.out pre (r.extract (m+1) r.size) wr L5 hlen;have HS:=Lib.hid fQ;have HR:=Lib.hid hR;clear fQ hR
    gi_wp2_with fail
    refine HR.out.mono ?_;rintro e W3 (⟨rfl,Gu,_⟩ | ⟨rfl,Gv⟩)
    ·gi_wp2_with fail
     go_roundw
     case rel =>
      refine ⟨pre++[r.extract (m+1) r.size],r.extract 0 m,rfl,by rw [ByteArray.size_extract]; omega,Gu,?_⟩;show pre++[r.extract (m+1) r.size]++(Nm.split (az (r.extract 0 m))).reverse.map bs=Nm.back s;rw [← I.out,HS.out,Nm.Co];simp only [List.reverse_append,List.reverse_cons,List.reverse_nil,List.nil_append,List.map_cons,List.append_assoc,List.cons_append];rw [← Nm.Cp,wW]
     case measure=>simp only [L2,ByteArray.size_extract]; omega
    ·gi_wp2_with fail
     refine bodyPost_ret (results_none rfl _ _ _) rfl ?_;refine ⟨⟨_,rfl⟩,.inr ⟨pre++[r.extract (m+1) r.size],?_,Gv⟩⟩;refine ⟨(Nm.split ((az r).take m)).reverse.map bs,?_⟩;rw [← I.out,HS.out];simp only [List.reverse_append,List.reverse_cons,List.reverse_nil,List.nil_append,List.map_cons,List.append_assoc,List.cons_append];rw [← Nm.Cp,wW]
   ·obtain rfl:i = -1:=by omega
    have fQ:Nm.split (az r)=[az r]:=Nm.zw _ (Nm.L3 r HI.out);have hlen:pre.length<(Nm.back s).length:=by
     rw [← I.out,fQ]; simp
    have hx:r.extract 0 r.size=r:=zB (by rw [Nm.Co,List.take_of_length_le (Nat.le_of_eq (Nm.len r))]);obtain ⟨fn,tmps,assign,body,hy,hR⟩:=HY.out pre r wr L5 hlen;have HS:=Lib.hid fQ;have HR:=Lib.hid hR;clear fQ hR
    gi_wp2_with fail
    refine HR.out.mono ?_;rintro e W3 (⟨rfl,Gu,_⟩ | ⟨rfl,Gv⟩)
    ·gi_wp2_with fail
     refine bodyPost_ret (results_none rfl _ _ _) rfl ?_;refine ⟨⟨_,rfl⟩,.inl ⟨pre++[r],?_,Gu⟩⟩;show pre++[r]=Nm.back s;rw [← I.out,HS.out]; simp [wW]
    ·gi_wp2_with fail
     refine bodyPost_ret (results_none rfl _ _ _) rfl ?_;refine ⟨⟨_,rfl⟩,.inr ⟨pre++[r],?_,Gv⟩⟩;refine ⟨[],?_⟩;rw [← I.out,HS.out]; simp [wW]
end Go.Proofs.YtcmnpelmmekdkaaGreatDoor
end
section
namespace Go.Proofs.YtcmnpelmmekdkaaGreatDoor
open Go.RowKit Go.Shelf
attribute [local go_sem] Oper.semAt_some
def Nm.Good (tot:Nat) (X:List ByteArray):Prop:=X.length≤8∧∀ i x,X[i]? = some x→Nm.label (az x)=true∨(i+1=tot∧az x=[42])
def Nm.star (X:List ByteArray):Bool:=match X.getLast? with
 |some x=>decide (az x=[42])
 |none=>false
theorem Nm.L6 (s:ByteArray) (hr:¬ az s=[46]) (hs:s.size≤60):Nm.valid (az s)=true↔Nm.Good (Nm.back s).length (Nm.back s):=by
 rw [Nm.LI _ hr (by rw [show (az s).length=s.size from Nm.len s]; exact hs),Nm.px];have hb:Nm.back s=(Nm.split (az s)).reverse.map bs:=by simp [Nm.back,Nm.labels,hr]
 rw [hb];generalize Nm.split (az s)=ls;simp only [Nm.Good,List.length_map,List.length_reverse];refine and_congr_right fun _=>?_;constructor
 ·intro h i x hx;rw [List.getElem?_map,Option.map_eq_some_iff] at hx;obtain ⟨y,hy,rfl⟩:=hx;have hi:i<ls.length:=by simpa using (List.getElem?_eq_some_iff.1 hy).1
  rw [List.getElem?_reverse hi] at hy;have:=h (ls.length - 1 - i) (by omega);simp only [Nm.jR,hy,Bool.or_eq_true,Bool.and_eq_true,decide_eq_true_eq] at this;rw [zG];rcases this with h | ⟨h1,h2⟩
  ·exact .inl h
  ·exact .inr ⟨by omega,h2⟩
 ·intro h i hi;obtain ⟨y,hy⟩:∃ y,ls[i]? = some y:=⟨_,List.getElem?_eq_getElem hi⟩;have hx:(ls.reverse.map bs)[ls.length - 1 - i]? = some (bs y):=by
   rw [List.getElem?_map,List.getElem?_reverse (by omega),show ls.length - 1 - (ls.length - 1 - i)=i by omega,hy]; rfl
  have:=h _ _ hx;rw [zG] at this;simp only [Nm.jR,hy,Bool.or_eq_true,Bool.and_eq_true,decide_eq_true_eq];rcases this with h | ⟨h1,h2⟩
  ·exact .inl h
  ·exact .inr ⟨by omega,h2⟩
theorem Nm.Ui:Nm.label [42]=false:=by decide
theorem Nm.Uj {pre:List ByteArray} {x:ByteArray} (h:Nm.Good pre.length pre) (aR:Nm.star pre=false) (hc:pre.length+1≤8) (hx:Nm.label (az x)=true∨az x=[42]):Nm.Good (pre++[x]).length (pre++[x]):=by
 refine ⟨by simpa using hc,fun i y hy=>?_⟩;by_cases hi:i<pre.length
 ·rw [List.getElem?_append_left hi] at hy;rcases h.2 i y hy with h1 | ⟨h1,h2⟩
  ·exact .inl h1
  ·exfalso;have:pre.getLast? = some y:=by rw [List.getLast?_eq_getElem?,← hy]; congr 1; omega
   simp [Nm.star,this,h2] at aR
 ·have cO:i=pre.length:=by
   have:=(List.getElem?_eq_some_iff.1 hy).1;simp at this; omega
  subst cO;rw [List.getElem?_append_right (Nat.le_refl _)] at hy;simp at hy;subst hy;rcases hx with h1 | h1
  ·exact .inl h1
  ·exact .inr ⟨by simp,h1⟩
theorem Nm.Uk {pre X:List ByteArray} {x:ByteArray} (hp:pre++[x] <+: X) (h:Nm.star pre=true∨8<pre.length+1∨(Nm.label (az x)=false∧¬ az x=[42])):¬ Nm.Good X.length X:=by
 rintro ⟨g1,g2⟩;obtain ⟨t,rfl⟩:=hp;rcases h with h | h | ⟨h1,h2⟩
 ·unfold Nm.star at h;split at h
  ·rename_i y hy;rw [List.getLast?_eq_getElem?] at hy;have ai:=(List.getElem?_eq_some_iff.1 hy).1;have:=g2 (pre.length - 1) y (by rw [List.append_assoc,List.getElem?_append_left ai]; exact hy);rcases this with e | ⟨e,_⟩
   ·rw [of_decide_eq_true h] at e; rw [Nm.Ui] at e; cases e
   ·simp at e; omega
  ·cases h
 ·simp at g1; omega
 ·have:=g2 pre.length x (by simp);rcases this with e | ⟨_,e⟩
  ·rw [h1] at e; cases e
  ·exact h2 e
theorem Nm.L7 (pre:List ByteArray) (x:ByteArray):Nm.star (pre++[x])=decide (az x=[42]):=by simp [Nm.star]
def Nm.Inv (w:World) (pre:List ByteArray) (W:World):Prop :=
 Nm.Good pre.length pre∧W.cell? ⟨w.heap.size,0,none⟩=some (.bool false)∧W.frozen? ⟨w.heap.size,0,none⟩=false ∧
 W.cell? ⟨w.heap.size+1,0,none⟩=some (.int .i64 pre.length)∧W.frozen? ⟨w.heap.size+1,0,none⟩=false ∧
 W.cell? ⟨w.heap.size+1+1,0,none⟩=some (.bool (Nm.star pre))∧W.frozen? ⟨w.heap.size+1+1,0,none⟩=false
def Nm.L8 (s:ByteArray) (w:World) (c:Code) (pre:List ByteArray) (W:World):Prop :=
 c = .ret∧(pre <+: Nm.back s→¬ Nm.Good (Nm.back s).length (Nm.back s))∧W.cell? ⟨w.heap.size,0,none⟩=some (.bool false)
set_option maxRecDepth 100000 in
set_option maxHeartbeats 2000000 in
theorem Ul (s:ByteArray) (w:World) (hs:s.size≤maxLen) (h:az s=[46]∨60<s.size) :
  Calls Tryz.prog 72 #[.string s] w fun e w'=>e = .returned (.bool (Nm.valid (az s)))∧Ext w w':=by
 unfold maxLen at hs;by_cases hr:az s=[46]
 ·have hb:(s.toList==[46])=true:=by rw [ByteArray.toList_eq]; simp only [beq_iff_eq]; exact hr
  have HV:Hid (Nm.valid (az s)=true):=by show Nm.valid (az s)=true; simp [Nm.valid,hr]
  clear hr h;refine (callsIn_wide (n:=3)).1 ?_;refine callsIn_of_wp_marks Tryz.func72 rfl trivial ?_ rfl;simp only [Tryz.ntmps72,List.size_toArray,List.length_cons,List.length_nil,Nat.reduceAdd,Nat.reduceSub,Array.replicate_succ,Array.replicate_zero,List.push_toArray,List.append_toArray,List.nil_append,List.cons_append]
  gi_wp2
  exact ⟨.bool true,by simp [results,Tryz.results72,go_sem],by rw [HV.out],(Ext.refl _).alloc _⟩
 ·have hb:(s.toList==[46])=false:=by rw [ByteArray.toList_eq]; simp only [beq_eq_false_iff_ne]; exact hr
  have uF:60<s.size:=by rcases h with h | h; exact absurd h hr; exact h
  have HV:Hid (Nm.valid (az s)=false):=Nm.LH (az s) hr (by rw [show (az s).length=s.size from Nm.len s]; exact uF);clear hr h;refine (callsIn_wide (n:=3)).1 ?_;refine callsIn_of_wp_marks Tryz.func72 rfl trivial ?_ rfl;simp only [Tryz.ntmps72,List.size_toArray,List.length_cons,List.length_nil,Nat.reduceAdd,Nat.reduceSub,Array.replicate_succ,Array.replicate_zero,List.push_toArray,List.append_toArray,List.nil_append,List.cons_append]
  gi_wp2
  exact ⟨.bool false,by simp [results,Tryz.results72,go_sem],by rw [HV.out],(Ext.refl _).alloc _⟩
theorem sC {W:World} {b1 b2:Nat} {u:Value} (h:b1≠b2):(W.setCell ⟨b1,0,none⟩ u).cell? ⟨b2,0,none⟩=W.cell? ⟨b2,0,none⟩ :=
 World.cell?_of_block (Below.heap_setCell W ⟨b1,0,none⟩ u b2 (fun e=>h e.symm))
theorem kY {W:World} {a:Addr} {u v:Value} (h:W.cell? a=some v):(W.setCell a u).cell? a=some u:=World.cell?_setCell_same' _ _ _ (by rw [h]; rfl)
theorem sD {W W':World} {a:Addr} {v:Value} {row:Option Nat} (h:W.cell? a=some v) (hg:W.grownBy W' row) (hr:∀ r,row=some r→∃ o:Obj,W.heap[r]? = some o∧o.isCells=false):W'.cell? a=some v:=Go.cell_kept h hg hr
set_option maxRecDepth 100000 in
set_option maxHeartbeats 4000000 in
theorem Um (s:ByteArray) (w:World) (hr:¬ az s=[46]) (uF:s.size≤60) :
  Calls Tryz.prog 72 #[.string s] w fun e w'=>e = .returned (.bool (Nm.valid (az s)))∧Ext w w':=by
 have hb:(s.toList==[46])=false:=by rw [ByteArray.toList_eq]; simp only [beq_eq_false_iff_ne]; exact hr
 have HV:=Lib.hid (Nm.L6 s hr uF);have ai:decide (60<(s.size:Int))=false:=by simp; omega
 clear hr;refine (callsIn_wide (n:=5)).1 ?_;refine callsIn_of_wp_marks Tryz.func72 rfl trivial ?_ rfl;simp only [Tryz.ntmps72,List.size_toArray,List.length_cons,List.length_nil,Nat.reduceAdd,Nat.reduceSub,Array.replicate_succ,Array.replicate_zero,List.push_toArray,List.append_toArray,List.nil_append,List.cons_append]
 gi_wp2
 have c0:(((w.alloc (.cells #[.bool false] 4)).alloc (.cells #[.int .i64 0] 3)).alloc (.cells #[.bool false] 4)).cell? ⟨w.heap.size,0,none⟩=some (.bool false):=cell_kept _ (cell_kept _ (D2 _ _ _));have c1:(((w.alloc (.cells #[.bool false] 4)).alloc (.cells #[.int .i64 0] 3)).alloc (.cells #[.bool false] 4)).cell? ⟨w.heap.size+1,0,none⟩=some (.int .i64 0):=cell_kept _ (by have:=D2 (w.alloc (.cells #[.bool false] 4)) (.int .i64 0) 3; rwa [World.size_alloc] at this);have c2:(((w.alloc (.cells #[.bool false] 4)).alloc (.cells #[.int .i64 0] 3)).alloc (.cells #[.bool false] 4)).cell? ⟨w.heap.size+1+1,0,none⟩=some (.bool false):=by have:=D2 ((w.alloc (.cells #[.bool false] 4)).alloc (.cells #[.int .i64 0] 3)) (.bool false) 4; rwa [World.size_alloc,World.size_alloc] at this
 have f0:∀ b,w.heap.size≤b→(((w.alloc (.cells #[.bool false] 4)).alloc (.cells #[.int .i64 0] 3)).alloc (.cells #[.bool false] 4)).frozen? ⟨b,0,none⟩=false:=fun b hb=>by
  rw [frozen?_alloc_cells,frozen?_alloc_cells,frozen?_alloc_cells]; exact Q5 w b 0 hb
 have jt:Below w.heap.size w (((w.alloc (.cells #[.bool false] 4)).alloc (.cells #[.int .i64 0] 3)).alloc (.cells #[.bool false] 4)):=((((Ext.refl w).alloc _).alloc _).alloc _).below;refine Gj rfl (by omega) (gf:=111) (fb := #[.string s]) (lb := #[]) rfl trivial (enters_of Tryz.func111 (by kernel_rfl) rfl)
  (Gs 4 (by omega) s (by unfold maxLen; omega) _) (fun _ _=>trivial) (fun _ _ _ _ _ _ _ _=>trivial) (Below.refl _ _) (fun _=>rfl)
  (fun pre W=>Nm.Inv w pre W∧Below w.heap.size w W)
  (fun c pre W=>Nm.L8 s w c pre W∧Below w.heap.size w W)
  (OwnFrom.and (Own.from (fun pre A B row hs hg hr=>⟨hs.1,sD hs.2.1 hg hr,(frozen_kept hs.2.1 hg hr).trans hs.2.2.1,sD hs.2.2.2.1 hg hr,(frozen_kept hs.2.2.2.1 hg hr).trans hs.2.2.2.2.1,sD hs.2.2.2.2.2.1 hg hr,(frozen_kept hs.2.2.2.2.2.1 hg hr).trans hs.2.2.2.2.2.2⟩) _) (ownFrom_below (Nat.le_refl _) (by simp; omega)))
  (fun c=>OwnFrom.and (Own.from (fun pre A B row hs hg hr=>⟨hs.1,hs.2.1,sD hs.2.2 hg hr⟩) _) (ownFrom_below (Nat.le_refl _) (by simp; omega)))
  ⟨⟨⟨by simp,by simp⟩,c0,f0 _ (by omega),c1,f0 _ (by omega),c2,f0 _ (by omega)⟩,jt⟩
  (fun x=>{ tmps := #[.string s,undef,.pointer (some ⟨w.heap.size,0,none⟩),.pointer (some ⟨w.heap.size+1,0,none⟩),.pointer (some ⟨w.heap.size+1+1,0,none⟩),.string x,.string s,.bool false,.string s,.int .i64 s.size,.bool false,.string s,.func (.func 111) #[.string s] #[],.string x,undef,undef,undef,undef,undef,undef,undef,undef,undef,undef,undef,undef,undef,undef,undef,undef],defers:=[] }) ?assign ?body ?done ?stop
 case assign =>
  intro l x W K hK
  gi_wp2
  exact hK
 case body =>
  rintro l pre x W ⟨⟨hG,k0,g0,k1,g1,k2,g2⟩,hB⟩ hlen;have HG:=Lib.hid hG;have h8:=hG.1;clear hG c0 c1 c2 f0 jt;have zD:(x.toList==[42])=decide (az x=[42]):=by rw [ByteArray.toList_eq,Bool.eq_iff_iff]; simp only [beq_iff_eq,decide_eq_true_eq]
  have L9:=Lib.hid zD;clear zD;clear hlen;have leave:∀ W',KeepsOthers W W'→W'.cell? ⟨w.heap.size,0,none⟩=some (.bool false)→Below w.heap.size w W' →
    (Nm.star pre=true∨8<pre.length+1∨(Nm.label (az x)=false∧¬ az x=[42]))→KeepsOthers W W'∧Nm.L8 s w .ret (pre++[x]) W'∧Below w.heap.size w W' :=
   fun W' h1 h2 h3 h4=>⟨h1,⟨rfl,fun hp=>Nm.Uk hp h4,h2⟩,h3⟩
  have LV:=Lib.hid leave;have Ma:∀ (st:Bool),Nm.star (pre++[x])=st→Nm.star pre=false→pre.length+1≤8→(Nm.label (az x)=true∨az x=[42]) →
    Nm.Inv w (pre++[x]) ((W.setCell ⟨w.heap.size+1,0,none⟩ (.int .i64 ((pre.length:Int)+1))).setCell ⟨w.heap.size+1+1,0,none⟩ (.bool st)) ∧
    Below w.heap.size w ((W.setCell ⟨w.heap.size+1,0,none⟩ (.int .i64 ((pre.length:Int)+1))).setCell ⟨w.heap.size+1+1,0,none⟩ (.bool st)) :=
   fun st h1 h2 h3 h4=>⟨⟨Nm.Uj HG.out h2 h3 h4,
    by rw [sC (by omega),sC (by omega)]; exact k0,by rw [World.frozen?_setCell,World.frozen?_setCell]; exact g0,
    by rw [sC (by omega),kY k1]; simp,by rw [World.frozen?_setCell,World.frozen?_setCell]; exact g1,
    by rw [kY (v := .bool (Nm.star pre)) (by rw [sC (by omega)]; exact k2),h1],by rw [World.frozen?_setCell,World.frozen?_setCell]; exact g2⟩,
    (hB.setCell (p:=⟨w.heap.size+1,0,none⟩) (by simp) _).setCell (p:=⟨w.heap.size+1+1,0,none⟩) (by simp; omega) _⟩
  have GO:=Lib.hid Ma;clear leave Ma;cases aR:Nm.star pre
  ·have uI:=Lib.hid aR;rw [aR] at k2;clear aR;by_cases hc:pre.length+1≤8
   ·cases hx:(x.toList==[42])
    ·have HX:Hid (¬ az x=[42]):=by have:=L9.out; rw [hx] at this; exact of_decide_eq_false this.symm
     cases hl:Nm.label (az x)
     ·have HL:=Lib.hid hl;clear hl
      gi_wp2_with (refine ⟨trivial,?_⟩; gi_at_call 112; refine (CallsIn.inRound l (callsIn_wide.2 (Gh x _))).mono ?_; rintro e w' ⟨rfl,rfl⟩; rw [HL.out])
      refine LV.out _ (((KeepsOthers.setCell _ _ _).trans (KeepsOthers.setCell _ _ _)).trans (KeepsOthers.setCell _ _ _)) ?_ ?_ (.inr (.inr ⟨HL.out,HX.out⟩))
      ·exact kY (v := .bool false) (by rw [sC (by omega),sC (by omega)]; exact k0)
      ·exact ((hB.setCell (p:=⟨w.heap.size+1,0,none⟩) (by simp) _).setCell (p:=⟨w.heap.size+1+1,0,none⟩) (by simp; omega) _).setCell (p:=⟨w.heap.size,0,none⟩) (Nat.le_refl _) _
     ·have HL:=Lib.hid hl;clear hl
      gi_wp2_with (refine ⟨trivial,?_⟩; gi_at_call 112; refine (CallsIn.inRound l (callsIn_wide.2 (Gh x _))).mono ?_; rintro e w' ⟨rfl,rfl⟩; rw [HL.out])
      exact ⟨(KeepsOthers.setCell _ _ _).trans (KeepsOthers.setCell _ _ _),trivial,GO.out false (by rw [Nm.L7]; exact decide_eq_false HX.out) uI.out hc (.inl HL.out)⟩
    ·have HX:Hid (az x=[42]):=by show az x=[42]; have:=L9.out; rw [hx] at this; exact of_decide_eq_true this.symm
     gi_wp2_with fail
     refine ⟨trivial,?_⟩
     gi_wp2_with fail
     exact ⟨(KeepsOthers.setCell _ _ _).trans (KeepsOthers.setCell _ _ _),trivial,GO.out true (by rw [Nm.L7]; exact decide_eq_true HX.out) uI.out hc (.inr HX.out)⟩
   ·gi_wp2_with fail
    refine LV.out _ ((KeepsOthers.setCell _ _ _).trans (KeepsOthers.setCell _ _ _)) ?_ ?_ (.inr (.inl (by omega)))
    ·exact kY (v := .bool false) (by rw [sC (by omega)]; exact k0)
    ·exact (hB.setCell (p:=⟨w.heap.size+1,0,none⟩) (by simp) _).setCell (p:=⟨w.heap.size,0,none⟩) (Nat.le_refl _) _
  ·have uI:=Lib.hid aR;rw [aR] at k2;clear aR
   gi_wp2_with fail
   refine LV.out _ ((KeepsOthers.setCell _ _ _).trans (KeepsOthers.setCell _ _ _)) ?_ ?_ (.inl uI.out)
   ·exact kY (v := .bool false) (by rw [sC (by omega)]; exact k0)
   ·exact (hB.setCell (p:=⟨w.heap.size+1,0,none⟩) (by simp) _).setCell (p:=⟨w.heap.size,0,none⟩) (Nat.le_refl _) _
 case done =>
  rintro D ys W hD sE ⟨⟨hG,k0,g0,k1,g1,k2,g2⟩,hB⟩ hK;have HY:Hid (ys=Nm.back s):=sE;have HG:=Lib.hid hG;clear sE hG c0 c1 c2 f0 jt
  gi_wp2
  have sF:=(KeepsOthers.setCell W ⟨w.heap.size,0,none⟩ (.bool true)).same D _ hK rfl;refine ⟨by simp,.inl ⟨_,_,rfl,run_takeDeferred sF,?_⟩⟩;have Gw:=sD (World.cell?_setCell_same' W ⟨w.heap.size,0,none⟩ (.bool true) (by rw [k0]; rfl)) (grownBy_putObj' _ D (.deferred none)) (fun r e=>by cases e; exact ⟨_,sF,rfl⟩);have hv:Nm.valid (az s)=true:=by rw [HV.out,← HY.out]; exact HG.out
  refine ⟨.bool true,?_,by rw [hv],Ext.rO ((hB.setCell (p:=⟨w.heap.size,0,none⟩) (Nat.le_refl _) _).trans (belowK_b (w:=w) (Nat.le_refl _) _ D _ _ (by simp at hD; omega) sF rfl rfl))⟩;simp [results,Tryz.results72,go_sem,Gw]
 case stop =>
  rintro D c pre W hD nF ⟨⟨rfl,gP,Un⟩,hB⟩ hK;have HP:Hid (pre <+: Nm.back s):=nF;have Uo:=Lib.hid gP;clear nF gP c0 c1 c2 f0 jt
  gi_wp2
  refine ⟨by simp,.inl ⟨_,_,rfl,run_takeDeferred hK,?_⟩⟩;have Gw:=sD Un (grownBy_putObj' _ D (.deferred none)) (fun r e=>by cases e; exact ⟨_,hK,rfl⟩);have hv:Nm.valid (az s)=false:=by rw [← Bool.not_eq_true,HV.out]; exact Uo.out HP.out
  refine ⟨.bool false,?_,by rw [hv],Ext.rO (hB.trans (belowK_b (w:=w) (Nat.le_refl _) W D _ _ (by simp at hD; omega) hK rfl rfl))⟩;simp [results,Tryz.results72,go_sem,Gw]
theorem iq (s:ByteArray) (w:World) (hs:s.size≤maxLen) :
  Calls Tryz.prog 72 #[.string s] w fun e w'=>e = .returned (.bool (Nm.valid (az s)))∧Ext w w':=by
 by_cases h:az s=[46]∨60<s.size
 ·exact Ul s w hs h
 ·rw [not_or] at h; exact Um s w h.1 (by omega)
set_option maxHeartbeats 400000 in
theorem Up (s:ByteArray) (w:World) (hs:s.size≤maxLen) :
  Calls Tryz.prog 32 #[.string s] w fun e w'=>e = .returned (.bool (Nm.valid (az s)))∧Ext w w':=by
 go_enter Tryz.func32,Tryz.ntmps32
 go_wp2_with fail
 refine (iq s _ hs).mono ?_;rintro e w1 ⟨rfl,hx⟩
 go_wp2_with fail
 go_ret
 exact ⟨rfl,hx⟩
end Go.Proofs.YtcmnpelmmekdkaaGreatDoor
end
section
namespace Go.Proofs.YtcmnpelmmekdkaaGreatDoor
open Go.RowKit
theorem Nm.Uq (l:List UInt8) (h:Nm.valid l=true):1≤l.length:=by
 cases l with
 |nil=>exfalso; revert h; decide
 |cons c r=>simp
theorem Nm.Ur (a z:List UInt8):Nm.split z <:+ Nm.split (a++46::z):=⟨Nm.split a,(Nm.Cf a z).symm⟩
theorem Nm.Us (p q:List (List UInt8)) (hp:p≠[]) (hq:q≠[]):Nm.glue (p++q)=Nm.glue p++46::Nm.glue q:=by
 induction p with
 |nil=>exact absurd rfl hp
 |cons x t ih =>
  cases t with
  |nil =>
   cases q with
   |nil=>exact absurd rfl hq
   |cons y u=>rfl
  |cons y u =>
   have:=ih (by simp);simp only [List.cons_append,Nm.glue] at this ⊢;rw [this]; simp
theorem Nm.sG (s z:List UInt8) (hs:s≠[46]) (hz:z≠[46]):Nm.under s z=true↔s=z∨∃ a,s=a++46::z:=by
 simp only [Nm.under,decide_eq_true_eq,Nm.labels,hs,hz,if_false];constructor
 ·rintro ⟨p,hp⟩;cases p with
  |nil=>left; exact (Nm.Lt _ _ hp).symm
  |cons x t =>
   right;refine ⟨Nm.glue (x::t),?_⟩;rw [← Nm.uE s,← hp,Nm.Us _ _ (by simp) (Nm.nC z),Nm.uE]
 ·rintro (rfl | ⟨a,rfl⟩)
  ·exact List.suffix_refl _
  ·exact Nm.Ur a z
theorem Nm.Ut (s z:List UInt8) (hs:Nm.valid s=true) (hz:Nm.valid z=true) (h1:s≠z) (h2:z≠[46]) :
  Nm.under s z=true↔z.length<s.length∧z <:+ s∧s[s.length - z.length - 1]? = some 46:=by
 by_cases hr:s=[46]
 ·subst hr;have jG:=Nm.Uq z hz;constructor
  ·intro h;simp only [Nm.under,decide_eq_true_eq,Nm.labels,h2,if_false,if_true] at h;exact absurd (List.eq_nil_of_suffix_nil h) (Nm.nC z)
  ·rintro ⟨h,_⟩; exfalso; simp only [List.length_singleton] at h; omega
 ·rw [Nm.sG s z hr h2];constructor
  ·rintro (h | ⟨a,rfl⟩)
   ·exact absurd h h1
   ·refine ⟨by simp; omega,⟨a++[46],by simp⟩,?_⟩;rw [show (a++46::z).length - z.length - 1=a.length by simp; omega];simp
  ·rintro ⟨h,⟨p,rfl⟩,h3⟩;right;have hp:p≠[]:=by rintro rfl; simp at h
   rw [show (p++z).length - z.length - 1=p.length - 1 by simp,List.getElem?_append_left (by have:=List.length_pos_iff.2 hp; omega)] at h3;refine ⟨p.dropLast,?_⟩;have e:p.getLast hp=46:=by
    rw [List.getLast_eq_getElem];exact (List.getElem?_eq_some_iff.1 h3).2
   conv=>lhs; rw [← List.dropLast_concat_getLast hp,e]
   simp
theorem Nm.Uu (s z:List UInt8) (h:s=z∨z=[46]):Nm.under s z=true:=by
 simp only [Nm.under,decide_eq_true_eq];rcases h with rfl | rfl
 ·exact List.suffix_refl _
 ·simp [Nm.labels]
set_option maxHeartbeats 800000 in
theorem Uv (s z:ByteArray) (w:World) (hs:s.size≤maxLen) (hz:z.size≤maxLen) :
  Calls Tryz.prog 91 #[.string s,.string z] w fun e w'=>e = .returned (.tuple #[.bool (Nm.mL (az s) (az z)),.int .i64 (if Nm.valid (az s)&&Nm.valid (az z) then 0 else 11)])∧Ext w w':=by
 cases h1:Nm.valid (az s)
 ·have H1:=Lib.hid h1;clear h1
  go_enter Tryz.func91,Tryz.ntmps91
  go_wp2_with fail
  refine (iq s _ hs).mono ?_;rintro e w1 ⟨rfl,dL⟩;rw [H1.out]
  go_wp2_with fail
  go_ret2
  exact ⟨by simp [Nm.mL,H1.out],dL⟩
 ·cases h2:Nm.valid (az z)
  ·have H1:=Lib.hid h1;have H2:=Lib.hid h2;clear h1 h2
   go_enter Tryz.func91,Tryz.ntmps91
   go_wp2_with fail
   refine (iq s _ hs).mono ?_;rintro e w1 ⟨rfl,dL⟩;rw [H1.out]
   go_wp2_with fail
   refine (iq z _ hz).mono ?_;rintro e w2 ⟨rfl,dJ⟩;rw [H2.out]
   go_wp2_with fail
   go_ret2
   exact ⟨by simp [Nm.mL,H1.out,H2.out],dL.trans dJ⟩
  ·have H1:=Lib.hid h1;have H2:=Lib.hid h2;have zs:=Nm.wS s h1;have zz:=Nm.wS z h2;clear h1 h2;by_cases hb:az s=az z∨az z=[46]
   ·have HU:=Lib.hid (Nm.Uu _ _ hb);have e1:(s.toList==z.toList)=decide (az s=az z):=zC s z;have e2:(z.toList==[46])=decide (az z=[46]):=by rw [ByteArray.toList_eq,Bool.eq_iff_iff]; simp only [beq_iff_eq,decide_eq_true_eq]
    by_cases bP:az s=az z
    ·rw [decide_eq_true bP] at e1;clear e2 hb bP
     go_enter Tryz.func91,Tryz.ntmps91
     go_wp2_with fail
     refine (iq s _ hs).mono ?_;rintro e w1 ⟨rfl,dL⟩;rw [H1.out]
     go_wp2_with fail
     refine (iq z _ hz).mono ?_;rintro e w2 ⟨rfl,dJ⟩;rw [H2.out]
     go_wp2_with fail
     go_ret2
     exact ⟨by simp [Nm.mL,H1.out,H2.out,HU.out],dL.trans dJ⟩
    ·have sH:az z=[46]:=by rcases hb with h | h; exact absurd h bP; exact h
     rw [decide_eq_false bP] at e1;rw [decide_eq_true sH] at e2;clear hb bP sH
     go_enter Tryz.func91,Tryz.ntmps91
     go_wp2_with fail
     refine (iq s _ hs).mono ?_;rintro e w1 ⟨rfl,dL⟩;rw [H1.out]
     go_wp2_with fail
     refine (iq z _ hz).mono ?_;rintro e w2 ⟨rfl,dJ⟩;rw [H2.out]
     go_wp2_with fail
     go_ret2
     exact ⟨by simp [Nm.mL,H1.out,H2.out,HU.out],dL.trans dJ⟩
   ·rw [not_or] at hb;have HU:=Lib.hid (Nm.Ut _ _ H1.out H2.out hb.1 hb.2);have ls:(az s).length=s.size:=Nm.len s;have lz:(az z).length=z.size:=Nm.len z;rw [ls,lz] at HU;have e1:(s.toList==z.toList)=false:=by rw [zC]; exact decide_eq_false hb.1
    have e2:(z.toList==[46])=false:=by rw [ByteArray.toList_eq,beq_eq_false_iff_ne]; exact hb.2
    clear hb ls lz;by_cases hl:z.size<s.size
    ·cases wX:decide (az z <:+ az s)
     ·have HF:Hid (Nm.under (az s) (az z)=false):=by
       rw [← Bool.not_eq_true,HU.out]; rintro ⟨_,h,_⟩; exact of_decide_eq_false wX h
      have HS:=Lib.hid wX;clear wX
      go_enter Tryz.func91,Tryz.ntmps91
      go_wp2_with fail
      refine (iq s _ hs).mono ?_;rintro e w1 ⟨rfl,dL⟩;rw [H1.out]
      go_wp2_with fail
      refine (iq z _ hz).mono ?_;rintro e w2 ⟨rfl,dJ⟩;rw [H2.out]
      go_wp2_with fail
      refine (LS s z _ hs hz).mono ?_;rintro e w' ⟨rfl,rfl⟩;rw [HS.out]
      go_wp2_with fail
      go_ret2
      exact ⟨by simp [Nm.mL,H1.out,H2.out,HF.out],dL.trans dJ⟩
     ·have hk:s.size - z.size - 1<s.size:=by omega
      have HT:Hid (Nm.under (az s) (az z)=decide (((s[s.size - z.size - 1]'hk).toNat:Int)=46)):=by
       show Nm.under (az s) (az z)=decide _;rw [Bool.eq_iff_iff,HU.out];have e:(az s)[s.size - z.size - 1]? = some (s[s.size - z.size - 1]'hk):=by rw [List.getElem?_eq_getElem (by simpa [az] using hk)]; rfl
       rw [e];simp only [Option.some.injEq,decide_eq_true_eq];constructor
       ·rintro ⟨_,_,h⟩; rw [h]; rfl
       ·intro h; exact ⟨hl,of_decide_eq_true wX,(Nm.toNat_eq _ 46).1 h⟩
      have HS:=Lib.hid wX;clear wX;have j1:((s.size:Int) - (z.size:Int) - 1).toNat=s.size - z.size - 1:=by omega
      have j2:(0:Int)≤(s.size:Int) - (z.size:Int) - 1:=by omega
      have j3:(s.size:Int) - (z.size:Int) - 1<(s.size:Int):=by omega
      go_enter Tryz.func91,Tryz.ntmps91
      go_wp2_with fail
      refine (iq s _ hs).mono ?_;rintro e w1 ⟨rfl,dL⟩;rw [H1.out]
      go_wp2_with fail
      refine (iq z _ hz).mono ?_;rintro e w2 ⟨rfl,dJ⟩;rw [H2.out]
      go_wp2_with fail
      refine (LS s z _ hs hz).mono ?_;rintro e w' ⟨rfl,rfl⟩;rw [HS.out]
      go_wp2_with fail
      go_ret2
      refine ⟨?_,dL.trans dJ⟩;simp only [Nm.mL,H1.out,H2.out,HT.out,Bool.true_and]
      congr 4
      try simp
    ·have HF:Hid (Nm.under (az s) (az z)=false):=by
      rw [← Bool.not_eq_true,HU.out]; rintro ⟨h,_,_⟩; omega
     go_enter Tryz.func91,Tryz.ntmps91
     go_wp2_with fail
     refine (iq s _ hs).mono ?_;rintro e w1 ⟨rfl,dL⟩;rw [H1.out]
     go_wp2_with fail
     refine (iq z _ hz).mono ?_;rintro e w2 ⟨rfl,dJ⟩;rw [H2.out]
     go_wp2_with fail
     go_ret2
     exact ⟨by simp [Nm.mL,H1.out,H2.out,HF.out],dL.trans dJ⟩
end Go.Proofs.YtcmnpelmmekdkaaGreatDoor
end
