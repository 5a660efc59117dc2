/- Several texts of mine, one behind the other. Conditions: as each says. -/
import Derived.Test.YtcmnpelmmekdkaaGreatDoorY4
import Derived.Lib.Bytealg
import Derived.RangeFuncBox
import Derived.Laws.MakeOwn
set_option linter.unusedVariables false
set_option linter.unusedSimpArgs false
section
namespace Go.Proofs.YtcmnpelmmekdkaaGreatDoor
open Go.RowKit Go.Shelf
attribute [local go_sem] Oper.semAt_some
set_option maxHeartbeats 1000000 in
set_option maxRecDepth 100000 in
theorem VQ (a b:ByteArray) (w:World) :
  Calls Tryz.prog 183 #[.string a,.string b] w fun e w'=>e = .returned (.int .i64 (Lib.compareBytes (az a) (az b)))∧w'=w:=by
 go_enter Tryz.func183,Tryz.ntmps183
 go_wp2
 rw [run_callFunc_extern Tryz.func225 (by kernel_rfl) (by kernel_rfl) (by kernel_rfl) (e:=Extern.BytealgCompare.compare) (by kernel_rfl),Lib.run_compareString];simp only [Result.andThen];rw [Oper.upon_value]
 go_wp2
 go_ret
 exact ⟨rfl,rfl⟩
set_option maxHeartbeats 1000000 in
theorem VT (a b:ByteArray) (w:World) :
  Calls Tryz.prog 117 #[.string a,.string b] w fun e w'=>e = .returned (.int .i64 (Lib.compareBytes (az a) (az b)))∧w'=w:=by
 go_enter Tryz.func117,Tryz.ntmps117
 go_wp2_with (go_at_call 183; refine (VQ _ _ _).mono ?_; rintro e w' ⟨rfl,rfl⟩)
 go_ret
 exact ⟨rfl,rfl⟩
def VU (rest:ByteArray) (bm br:Nat) (w:World) (e:Ending) (w':World):Prop :=
 ∃ x,e = .returned (.tuple #[.string x,.bool true])∧((Nm.split (az rest)=[az x]∧w'=w.setCell ⟨bm,0,none⟩ (.bool false)) ∨
  ∃ r',r'.size≤rest.size∧Nm.split (az rest)=Nm.split (az r')++[az x]∧w'=w.setCell ⟨br,0,none⟩ (.string r'))
set_option maxHeartbeats 1000000 in
set_option maxRecDepth 100000 in
theorem VV (bm br:Nat) (w:World) (h1:w.cell? ⟨bm,0,none⟩=some (.bool false)) :
  Calls Tryz.prog 182 #[.pointer (some ⟨bm,0,none⟩),.pointer (some ⟨br,0,none⟩)] w fun e w'=>e = .returned (.tuple #[.string ⟨#[]⟩,.bool false])∧w'=w:=by
 go_enter Tryz.func182,Tryz.ntmps182
 go_wp2
 go_ret2
 exact ⟨rfl,rfl⟩
set_option maxHeartbeats 1000000 in
set_option maxRecDepth 100000 in
theorem VW (rest:ByteArray) (bm br:Nat) (w:World) (hs:rest.size≤60) (h1:w.cell? ⟨bm,0,none⟩=some (.bool true)) (f1:w.frozen? ⟨bm,0,none⟩=false) (h2:w.cell? ⟨br,0,none⟩=some (.string rest)) (f2:w.frozen? ⟨br,0,none⟩=false) :
  Calls Tryz.prog 182 #[.pointer (some ⟨bm,0,none⟩),.pointer (some ⟨br,0,none⟩)] w (VU rest bm br w):=by
 go_enter Tryz.func182,Tryz.ntmps182
 go_wp2_with fail
 refine (LR rest 46 _ (by unfold maxLen; omega)).mono ?_;rintro e w' ⟨i,rfl,hi,rfl⟩;have HI:=Lib.hid hi;obtain ⟨tP,pB,_,_⟩:=hi;by_cases Gt:0≤i
 ·obtain ⟨m,rfl⟩:=Int.eq_ofNat_of_zero_le Gt;have HS:=Lib.hid (Nm.L4 rest m HI.out)
  go_wp2_with fail
  go_ret2
  refine ⟨rest.extract (m+1) rest.size,rfl,.inr ⟨rest.extract 0 m,by rw [ByteArray.size_extract]; omega,?_,rfl⟩⟩;rw [HS.out,Nm.Co,Nm.Cp]
 ·obtain rfl:i = -1:=by omega
  have HS:=Lib.hid (Nm.zw _ (Nm.L3 rest HI.out));have hx:rest.extract 0 rest.size=rest:=zB (by rw [Nm.Co,List.take_of_length_le (Nat.le_of_eq (Nm.len rest))])
  go_wp2_with fail
  go_ret2
  exact ⟨rest,rfl,.inl ⟨HS.out,rfl⟩⟩
theorem GY (s:ByteArray):s.toList=az s:=by rw [ByteArray.toList_eq]
structure VX (s:ByteArray) (w w':World):Prop where
 ext:Ext w w'
 size:w'.heap.size=w.heap.size+2
 rest:Boxed w' w.heap.size 9 (.string s)
 more:Boxed w' (w.heap.size+1) 4 (.bool (!s.toList==[46]))
set_option maxHeartbeats 1000000 in
set_option maxRecDepth 100000 in
theorem VY (s:ByteArray) (w:World) :
  Calls Tryz.prog 116 #[.string s] w fun e w'=>e = .returned (.func (.func 182) #[] #[.pointer (some ⟨w.heap.size+1,0,none⟩),.pointer (some ⟨w.heap.size,0,none⟩)])∧VX s w w':=by
 go_enter Tryz.func116,Tryz.ntmps116
 go_wp2
 go_ret
 refine ⟨rfl,((Ext.refl w).alloc _).alloc _,by simp,(Boxed.new w _ _).alloc _,?_⟩;have:=Boxed.new (w.alloc (.cells #[.string s] 9)) 4 (.bool (!s.toList==[46]))
 rwa [World.size_alloc] at this
def kD:List ByteArray→List ByteArray→Int
 | [],[]=>0
 | [],_::_ => -1
 |_::_,[]=>1
 |x::l,y::m=>if Lib.compareBytes (az x) (az y)≠0 then Lib.compareBytes (az x) (az y) else kD l m
theorem M7:∀ (l:List UInt8),Lib.compareBytes l l=0
 | []=>rfl
 |c::l=>by
  have:¬ c<c:=by simp
  simp [Lib.compareBytes,this,M7 l]
theorem CV:∀ (p l m:List ByteArray),kD (p++l) (p++m)=kD l m
 | [],_,_=>rfl
 |x::p,l,m=>by
  simp only [List.cons_append,kD,M7,ne_eq,not_true_eq_false,if_false];exact CV p l m
theorem VZ {A B pre:List ByteArray} {x:ByteArray} (h1:pre=B.take pre.length) (h2:B.drop pre.length=[]) (h3:pre++[x] <+: A):kD A B=1:=by
 obtain ⟨r,rfl⟩:=h3;have hB:B=pre:=by
  have:=List.take_append_drop pre.length B;rw [h2,← h1,List.append_nil] at this;exact this.symm
 rw [hB];have:=CV pre (x::r) [];rw [List.append_nil] at this;rw [List.append_assoc,List.singleton_append,this];rfl
theorem V0 {A B pre m:List ByteArray} {x y:ByteArray} (h1:pre=B.take pre.length) (h2:B.drop pre.length=y::m) (h3:pre++[x] <+: A) (h4:Lib.compareBytes (az x) (az y)≠0):kD A B=Lib.compareBytes (az x) (az y):=by
 obtain ⟨r,rfl⟩:=h3;have hB:B=pre++y::m:=by
  have:=List.take_append_drop pre.length B;rw [h2,← h1] at this;exact this.symm
 have hc:=CV pre (x::r) (y::m);rw [← hB] at hc;rw [List.append_assoc,List.singleton_append,hc,kD,if_pos h4]
theorem V1 {A B:List ByteArray} (h1:A=B.take A.length) (h2:A≠B):kD A B = -1:=by
 cases hd:B.drop A.length with
 |nil =>
  have:=List.take_append_drop A.length B;rw [hd,← h1,List.append_nil] at this;exact absurd this h2
 |cons y m =>
  have hB:B=A++y::m:=by
   have:=List.take_append_drop A.length B;rw [hd,← h1] at this;exact this.symm
  have hc:=CV A [] (y::m);rw [List.append_nil,← hB] at hc;rw [hc];rfl
theorem M8:∀ {l m:List UInt8},Lib.compareBytes l m=0→l=m
 | [],[],_=>rfl
 | [],_::_,h=>by simp [Lib.compareBytes] at h
 |_::_,[],h=>by simp [Lib.compareBytes] at h
 |c::l,d::m,h=>by
  simp only [Lib.compareBytes] at h;split at h
  ·simp at h
  ·split at h
   ·simp at h
   ·rename_i h1 h2;have:c=d:=UInt8.le_antisymm (UInt8.not_lt.1 h2) (UInt8.not_lt.1 h1);rw [this,M8 h]
theorem drop_cons {α:Type} {B m:List α} {n:Nat} {y:α} (h:B.drop n=y::m):B.take (n+1)=B.take n++[y]∧B.drop (n+1)=m:=by
 have h1:B[n]? = some y:=by
  have:=congrArg (fun l=>l[0]?) h
  simpa using this
 have h2:B.drop (n+1)=m:=by
  have:=congrArg List.tail h
  simpa using this
 exact ⟨by rw [List.take_add_one,h1]; rfl,h2⟩
def GZ (rest:ByteArray) (more:Bool) (R:List ByteArray):Prop:=(more=false∧R=[])∨(more=true∧R=(Nm.split (az rest)).reverse.map bs)
theorem Boxed.still {W W':World} {row:Option Nat} {B:Nat} {t:TypeId} {v:Value} (h:Boxed W B t v) (hg:W.grownBy W' row) (hr:∀ r,row=some r→∃ o:Obj,W.heap[r]? = some o∧o.isCells=false):Boxed W' B t v :=
 h.kept hg fun e=>by
  obtain ⟨o,ho,hc⟩:=hr B e.symm;rw [show W.heap[B]? = _ from h] at ho;cases ho;cases hc
theorem zV {a b:List UInt8} (h:Nm.labels a=Nm.labels b):a=b:=by
 unfold Nm.labels at h;split at h
 ·split at h
  ·simp_all
  ·exact absurd h.symm (Nm.nC _)
 ·split at h
  ·exact absurd h (Nm.nC _)
  ·exact Nm.Lt _ _ h
theorem V2 {a b:ByteArray} (h:Nm.back a=Nm.back b):az a=az b:=by
 unfold Nm.back at h;have h1:=congrArg (List.map az) h;simp only [List.map_map] at h1;have e:∀ l:List (List UInt8),l.map (az ∘ bs)=l:=fun l=>by
  induction l with
  |nil=>rfl
  |cons x l ih=>rw [List.map_cons,ih]; simp [zG]
 rw [e,e] at h1;exact zV (List.reverse_inj.1 h1)
set_option maxRecDepth 100000 in
set_option maxHeartbeats 4000000 in
theorem V3 (a b:ByteArray) (w:World) (ha:Nm.valid (az a)=true) (hb:Nm.valid (az b)=true) (aJ:¬ az a=az b) :
  Calls Tryz.prog 76 #[.string a,.string b] w fun e w'=>e = .returned (.tuple #[.int .i64 (kD (Nm.back a) (Nm.back b)),.int .i64 0])∧Ext w w':=by
 have V4:=Lib.hid (fun h=>aJ (V2 h));have V5:=Nm.wS a ha;have V6:=Nm.wS b hb;have yE:(a.toList==b.toList)=false:=by rw [GY,GY]; simp only [beq_eq_false_iff_ne]; exact aJ
 have HA:=Lib.hid ha;have HB:=Lib.hid hb;clear ha hb aJ;refine (callsIn_wide (n:=5)).1 ?_;refine callsIn_of_wp_marks Tryz.func76 rfl trivial ?_ rfl;simp only [Tryz.ntmps76,List.size_toArray,List.length_cons,List.length_nil,Nat.reduceAdd,Nat.reduceSub,Array.replicate_succ,Array.replicate_zero,List.push_toArray,List.append_toArray,List.nil_append,List.cons_append]
 gi_wp2_with fail
 refine ⟨trivial,?_⟩;refine (callsIn_wide.2 (iq a _ (by unfold maxLen; omega))).mono ?_;rintro e w1 ⟨rfl,dL⟩;rw [HA.out]
 gi_wp2_with fail
 refine ⟨trivial,?_⟩;refine (callsIn_wide.2 (iq b _ (by unfold maxLen; omega))).mono ?_;rintro e w2 ⟨rfl,dJ⟩;rw [HB.out]
 gi_wp2_with fail
 refine ⟨trivial,?_⟩;refine (callsIn_wide.2 (VY b _)).mono ?_;rintro e w3 ⟨rfl,hp⟩
 gi_wp2_with fail
 have G0:Ext w w2:=((((Ext.refl w).alloc _).alloc _).trans dL).trans dJ;have b1:Boxed w2 w.heap.size 3 (.int .i64 0):=by
  have h0:Boxed ((w.alloc (.cells #[.int .i64 0] 3)).alloc (.cells #[.int .i64 0] 33)) w.heap.size 3 (.int .i64 0):=(Boxed.new w _ _).alloc _;have h1:Boxed w1 w.heap.size 3 (.int .i64 0):=(dL.block _ h0.lt).trans h0;exact (dJ.block _ h1.lt).trans h1
 have b2:Boxed w2 (w.heap.size+1) 33 (.int .i64 0):=by
  have h0:Boxed ((w.alloc (.cells #[.int .i64 0] 3)).alloc (.cells #[.int .i64 0] 33)) (w.heap.size+1) 33 (.int .i64 0):=by
   have:=Boxed.new (w.alloc (.cells #[.int .i64 0] 3)) 33 (.int .i64 0)
   rwa [World.size_alloc] at this
  have h1:Boxed w1 (w.heap.size+1) 33 (.int .i64 0):=(dL.block _ h0.lt).trans h0;exact (dJ.block _ h1.lt).trans h1
 have acq:=b1.lt;have gX:=b2.lt;obtain ⟨oK,zW⟩:∃ oK:Value,oK = .func (.func 182) #[] #[.pointer (some ⟨w2.heap.size+1,0,none⟩),.pointer (some ⟨w2.heap.size,0,none⟩)]:=⟨_,rfl⟩;have b3:=(show Boxed w3 w.heap.size 3 (.int .i64 0) from (hp.ext.block _ b1.lt).trans b1).alloc (.cells #[oK] 182);have b4:=(show Boxed w3 (w.heap.size+1) 33 (.int .i64 0) from (hp.ext.block _ b2.lt).trans b2).alloc (.cells #[oK] 182);have b5:=hp.rest.alloc (.cells #[oK] 182);have b6:=hp.more.alloc (.cells #[oK] 182);have b7:=Boxed.new w3 182 oK;have G1:=hp.size;have jt:Below w.heap.size w (w3.alloc (.cells #[oK] 182)):=((G0.trans hp.ext).alloc _).below;rw [← zW];generalize M9:w3.alloc (.cells #[oK] 182)=W0 at *;have V7:W0.heap.size=w2.heap.size+3:=by rw [← M9,World.size_alloc,G1]
 have xf:Nm.back b=if az b=[46] then [] else (Nm.split (az b)).reverse.map bs:=by
  unfold Nm.back Nm.labels;split <;> simp
 have CW:GZ b (!b.toList==[46]) (Nm.back b):=by
  rw [xf,GY];by_cases hr:az b=[46]
  ·left; simp [hr]
  ·right; simp [hr]
 clear M9 hp dL dJ b1 b2;rw [G1] at b7 ⊢;clear G1;refine Gj rfl (by omega) (gf:=111) (fb := #[.string a]) (lb := #[]) rfl trivial (enters_of Tryz.func111 (by kernel_rfl) rfl)
  (Gs 4 (by omega) a (by unfold maxLen; omega) _) (fun _ _=>trivial) (fun _ _ _ _ _ _ _ _=>trivial) (Below.refl _ _) (fun _=>rfl)
  (fun pre W=>(∃ (rest:ByteArray) (more:Bool),Boxed W w.heap.size 3 (.int .i64 0)∧Boxed W (w.heap.size+1) 33 (.int .i64 0)∧Boxed W (w2.heap.size+2) 182 oK∧Boxed W (w2.heap.size+1) 4 (.bool more)∧Boxed W w2.heap.size 9 (.string rest)∧rest.size≤60∧GZ rest more ((Nm.back b).drop pre.length)∧pre=(Nm.back b).take pre.length)∧Below w.heap.size w W)
  (fun c pre W=>(c = .ret∧∃ v,Boxed W w.heap.size 3 (.int .i64 v)∧Boxed W (w.heap.size+1) 33 (.int .i64 0)∧(pre <+: Nm.back a→v=kD (Nm.back a) (Nm.back b)))∧Below w.heap.size w W)
  (OwnFrom.and (Own.from (fun pre A B row hs hg hr=>by
   obtain ⟨rest,more,g1,g2,g3,g4,g5,g6⟩:=hs
   exact ⟨rest,more,Boxed.still g1 hg hr,Boxed.still g2 hg hr,Boxed.still g3 hg hr,Boxed.still g4 hg hr,Boxed.still g5 hg hr,g6⟩) _) (ownFrom_below (Nat.le_refl _) (by omega)))
  (fun c=>OwnFrom.and (Own.from (fun pre A B row hs hg hr=>by
   obtain ⟨e,v,g1,g2,g3⟩:=hs
   exact ⟨e,v,Boxed.still g1 hg hr,Boxed.still g2 hg hr,g3⟩) _) (ownFrom_below (Nat.le_refl _) (by omega)))
  ⟨⟨b,_,b3,b4,b7,b6,b5,V6,CW,by simp⟩,jt⟩
  (fun x=>{ tmps := #[.string a,.string b,undef,undef,.pointer (some ⟨w.heap.size,0,none⟩),.pointer (some ⟨w.heap.size+1,0,none⟩),.string a,.string b,   .pointer (some ⟨w2.heap.size+2,0,none⟩),.func (.func 111) #[.string a] #[],.string x,undef,undef,undef,.string a,.string b,.string a,.bool true,.bool false,.bool false,.string b,.bool true,.bool false,.bool false,.string a,.string b,.bool false,.string b,oK,.string a,.func (.func 111) #[.string a] #[],.func (.func 111) #[.string a] #[],.string x,undef,undef,undef,undef,undef,undef,undef,undef,undef,undef,undef,undef,undef],defers:=[] }) ?assign ?body ?done ?stop
 case assign =>
  intro l x W K hK;subst zW
  gi_wp2
  exact hK
 case body =>
  rintro l pre x W ⟨⟨rest,more,g1,g2,g3,g4,g5,g6,aR,nF⟩,hB⟩ hlen;have uI:=Lib.hid aR;have zX:=Lib.hid nF;clear aR nF hlen b3 b4 b5 b6 b7 jt CW xf V7;subst zW;have n12:w.heap.size≠w.heap.size+1:=by omega
  have leave:∀ (W1:World) (v:Int),KeepsOthers W W1→Boxed W1 w.heap.size 3 (.int .i64 0)→Boxed W1 (w.heap.size+1) 33 (.int .i64 0)→Below w.heap.size w W1→(pre++[x] <+: Nm.back a→v=kD (Nm.back a) (Nm.back b)) →
    KeepsOthers W ((W1.setCell ⟨w.heap.size,0,none⟩ (.int .i64 v)).setCell ⟨w.heap.size+1,0,none⟩ (.int .i64 0))∧(∃ u,Boxed ((W1.setCell ⟨w.heap.size,0,none⟩ (.int .i64 v)).setCell ⟨w.heap.size+1,0,none⟩ (.int .i64 0)) w.heap.size 3 (.int .i64 u)∧Boxed ((W1.setCell ⟨w.heap.size,0,none⟩ (.int .i64 v)).setCell ⟨w.heap.size+1,0,none⟩ (.int .i64 0)) (w.heap.size+1) 33 (.int .i64 0)∧(pre++[x] <+: Nm.back a→u=kD (Nm.back a) (Nm.back b)))∧Below w.heap.size w ((W1.setCell ⟨w.heap.size,0,none⟩ (.int .i64 v)).setCell ⟨w.heap.size+1,0,none⟩ (.int .i64 0)) :=
   fun W1 v h0 h1 h2 h3 h4=>⟨(h0.trans (KeepsOthers.setCell _ _ _)).trans (KeepsOthers.setCell _ _ _),⟨v,(h1.set (.int .i64 v)).other n12 _,(h2.other n12.symm (.int .i64 v)).set (.int .i64 0),h4⟩,
    (h3.setCell (p:=⟨w.heap.size,0,none⟩) (by simp) _).setCell (p:=⟨w.heap.size+1,0,none⟩) (by simp) _⟩
  have LV:=Lib.hid leave;clear leave;have k1:=g1.cell;have xg:=g1.frozen;have k2:=g2.cell;have xh:=g2.frozen;have k3:=g3.cell;have k4:=g4.cell;have M':=g4.frozen;have k5:=g5.cell;have Na:=g5.frozen;cases more
  ·gi_wp2_with fail
   refine ⟨trivial,?_⟩;refine (CallsIn.inRound l (callsIn_wide.2 (VV _ _ _ k4))).mono ?_;rintro e W1 ⟨rfl,rfl⟩
   gi_wp2_with fail
   obtain ⟨q1,q2,q3⟩:=LV.out _ 1 (KeepsOthers.refl _) g1 g2 hB fun hp=>by
    rcases uI.out with ⟨-,hd⟩ | ⟨h,-⟩
    ·exact (VZ zX.out hd hp).symm
    ·cases h
   exact ⟨q1,⟨rfl,q2⟩,q3⟩
  ·have hd:(Nm.back b).drop pre.length=(Nm.split (az rest)).reverse.map bs:=by
    rcases uI.out with ⟨h,-⟩ | ⟨-,h⟩
    ·cases h
    ·exact h
   have HD:=Lib.hid hd;clear hd
   gi_wp2_with fail
   refine ⟨trivial,?_⟩;refine (CallsIn.inRound l (callsIn_wide.2 (VW rest _ _ _ g6 k4 M' k5 Na))).mono ?_;rintro e W1 ⟨y,rfl,hy⟩;clear k1 xg k2 xh k3 k4 M' k5 Na;have fin:∃ (zY:ByteArray) (CX:Bool) (m:List ByteArray),(Nm.back b).drop pre.length=y::m∧GZ zY CX m∧zY.size≤60∧Boxed W1 w.heap.size 3 (.int .i64 0)∧Boxed W1 (w.heap.size+1) 33 (.int .i64 0)∧Boxed W1 (w2.heap.size+2) 182 (.func (.func 182) #[] #[.pointer (some ⟨w2.heap.size+1,0,none⟩),.pointer (some ⟨w2.heap.size,0,none⟩)])∧Boxed W1 (w2.heap.size+1) 4 (.bool CX)∧Boxed W1 w2.heap.size 9 (.string zY)∧KeepsOthers W W1∧Below w.heap.size w W1:=by
    rcases hy with ⟨hs,rfl⟩ | ⟨r',Nb,zZ,rfl⟩
    ·refine ⟨rest,false,[],?_,.inl ⟨rfl,rfl⟩,g6,g1.other (by omega) _,g2.other (by omega) _,g3.other (by omega) _,g4.set _,g5.other (by omega) _,KeepsOthers.setCell _ _ _,hB.setCell (p:=⟨w2.heap.size+1,0,none⟩) (by simp; omega) _⟩;rw [HD.out,hs];simp [wW]
    ·refine ⟨r',true,(Nm.split (az r')).reverse.map bs,?_,.inr ⟨rfl,rfl⟩,by omega,g1.other (by omega) _,g2.other (by omega) _,g3.other (by omega) _,g4.other (by omega) _,g5.set _,KeepsOthers.setCell _ _ _,hB.setCell (p:=⟨w2.heap.size,0,none⟩) (by simp; omega) _⟩;rw [HD.out,zZ];simp [wW]
   clear hy g1 g2 g3 g4 g5;obtain ⟨zY,CX,m,hm,eF,V8,g1,g2,g3,g4,g5,Nc,Cq⟩:=fin;have HM:=Lib.hid hm;have V9:=Lib.hid eF;clear hm eF;have k1:=g1.cell;have xg:=g1.frozen;have k2:=g2.cell;have xh:=g2.frozen
   gi_wp2_with fail
   refine ⟨trivial,?_⟩;refine (CallsIn.inRound l (callsIn_wide.2 (VT x y _))).mono ?_;rintro e W2 ⟨rfl,rfl⟩;generalize Nd:Lib.compareBytes (az x) (az y)=c;have HC:=Lib.hid Nd;clear Nd;by_cases hc:c=0
   ·subst hc
    gi_wp2_with fail
    have V':x=y:=zB (M8 HC.out);obtain ⟨d1,d2⟩:=drop_cons HM.out;have kh:(pre++[x]).length=pre.length+1:=by simp
    refine ⟨Nc,trivial,⟨zY,CX,g1,g2,g3,g4,g5,V8,?_,?_⟩,Cq⟩
    ·rw [kh,d2]; exact V9.out
    ·rw [kh,d1,← zX.out,V']
   ·have MJ:(c != 0)=true:=by simpa using hc
    gi_wp2_with fail
    obtain ⟨q1,q2,q3⟩:=LV.out _ c Nc g1 g2 Cq fun hp=>by
     have:=V0 zX.out HM.out hp (by rw [HC.out]; exact hc);rw [HC.out] at this;exact this.symm
    exact ⟨q1,⟨rfl,q2⟩,q3⟩
 case done =>
  rintro D ys W hD sE ⟨⟨rest,more,g1,g2,g3,g4,g5,g6,aR,nF⟩,hB⟩ hK;have HY:Hid (ys=Nm.back a):=sE;have zX:=Lib.hid nF;clear sE nF aR b3 b4 b5 b6 b7 jt CW xf;subst zW;have k1:=g1.cell;have xg:=g1.frozen;have k2:=g2.cell;have xh:=g2.frozen
  gi_wp2
  have hv:kD (Nm.back a) (Nm.back b) = -1:=by
   rw [← HY.out];exact V1 zX.out (fun h=>V4.out (HY.out ▸ h))
  have n12:w.heap.size≠w.heap.size+1:=by omega
  have q1:=(g1.set (.int .i64 (-1))).other n12 (.int .i64 0);have q2:=(g2.other n12.symm (.int .i64 (-1))).set (.int .i64 0);have sF:=((KeepsOthers.setCell W ⟨w.heap.size,0,none⟩ (.int .i64 (-1))).trans (KeepsOthers.setCell _ ⟨w.heap.size+1,0,none⟩ (.int .i64 0))).same D _ hK rfl;refine ⟨by simp,.inl ⟨_,_,rfl,run_takeDeferred sF,?_⟩⟩;have hg:=grownBy_putObj' ((W.setCell ⟨w.heap.size,0,none⟩ (.int .i64 (-1))).setCell ⟨w.heap.size+1,0,none⟩ (.int .i64 0)) D (.deferred none);have r1:=(Boxed.still q1 hg (fun r e=>by cases e; exact ⟨_,sF,rfl⟩)).cell;have r2:=(Boxed.still q2 hg (fun r e=>by cases e; exact ⟨_,sF,rfl⟩)).cell;refine ⟨.tuple #[.int .i64 (-1),.int .i64 0],?_,by rw [hv],Ext.rO (((hB.setCell (p:=⟨w.heap.size,0,none⟩) (by simp) _).setCell (p:=⟨w.heap.size+1,0,none⟩) (by simp) _).trans (belowK_b (w:=w) (Nat.le_refl _) _ D _ _ (by omega) sF rfl rfl))⟩;simp [results,Tryz.results76,go_sem,r1,r2]
 case stop =>
  rintro D c pre W hD nF ⟨⟨rfl,v,g1,g2,hv⟩,hB⟩ hK;have HP:Hid (pre <+: Nm.back a):=nF;have HV:=Lib.hid hv;clear nF hv b3 b4 b5 b6 b7 jt CW xf;subst zW
  gi_wp2
  refine ⟨by simp,.inl ⟨_,_,rfl,run_takeDeferred hK,?_⟩⟩;have hg:=grownBy_putObj' W D (.deferred none);have r1:=(Boxed.still g1 hg (fun r e=>by cases e; exact ⟨_,hK,rfl⟩)).cell;have r2:=(Boxed.still g2 hg (fun r e=>by cases e; exact ⟨_,hK,rfl⟩)).cell;refine ⟨.tuple #[.int .i64 v,.int .i64 0],?_,by rw [HV.out HP.out],Ext.rO (hB.trans (belowK_b (w:=w) (Nat.le_refl _) W D _ _ (by omega) hK rfl rfl))⟩;simp [results,Tryz.results76,go_sem,r1,r2]
set_option maxRecDepth 100000 in
set_option maxHeartbeats 4000000 in
theorem Wa (a:ByteArray) (w:World) (ha:Nm.valid (az a)=true) :
  Calls Tryz.prog 76 #[.string a,.string a] w fun e w'=>e = .returned (.tuple #[.int .i64 0,.int .i64 0])∧Ext w w':=by
 have V5:=Nm.wS a ha;have yE:(a.toList==a.toList)=true:=by simp
 have HA:=Lib.hid ha;clear ha;refine (callsIn_wide (n:=5)).1 ?_;refine callsIn_of_wp_marks Tryz.func76 rfl trivial ?_ rfl;simp only [Tryz.ntmps76,List.size_toArray,List.length_cons,List.length_nil,Nat.reduceAdd,Nat.reduceSub,Array.replicate_succ,Array.replicate_zero,List.push_toArray,List.append_toArray,List.nil_append,List.cons_append]
 gi_wp2_with fail
 refine ⟨trivial,?_⟩;refine (callsIn_wide.2 (iq a _ (by unfold maxLen; omega))).mono ?_;rintro e w1 ⟨rfl,dL⟩;rw [HA.out]
 gi_wp2_with fail
 refine ⟨trivial,?_⟩;refine (callsIn_wide.2 (iq a _ (by unfold maxLen; omega))).mono ?_;rintro e w2 ⟨rfl,dJ⟩;rw [HA.out];have G0:Ext w w2:=((((Ext.refl w).alloc _).alloc _).trans dL).trans dJ;have b1:Boxed w2 w.heap.size 3 (.int .i64 0):=by
  have h0:Boxed ((w.alloc (.cells #[.int .i64 0] 3)).alloc (.cells #[.int .i64 0] 33)) w.heap.size 3 (.int .i64 0):=(Boxed.new w _ _).alloc _;have h1:Boxed w1 w.heap.size 3 (.int .i64 0):=(dL.block _ h0.lt).trans h0;exact (dJ.block _ h1.lt).trans h1
 have b2:Boxed w2 (w.heap.size+1) 33 (.int .i64 0):=by
  have h0:Boxed ((w.alloc (.cells #[.int .i64 0] 3)).alloc (.cells #[.int .i64 0] 33)) (w.heap.size+1) 33 (.int .i64 0):=by
   have:=Boxed.new (w.alloc (.cells #[.int .i64 0] 3)) 33 (.int .i64 0)
   rwa [World.size_alloc] at this
  have h1:Boxed w1 (w.heap.size+1) 33 (.int .i64 0):=(dL.block _ h0.lt).trans h0;exact (dJ.block _ h1.lt).trans h1
 have k1:=b1.cell;have xg:=b1.frozen;have k2:=b2.cell;have xh:=b2.frozen
 gi_wp2_with fail
 have n12:w.heap.size≠w.heap.size+1:=by omega
 have r1:=((b1.set (.int .i64 0)).other n12 (.int .i64 0)).cell;have r2:=((b2.other n12.symm (.int .i64 0)).set (.int .i64 0)).cell;exact ⟨.tuple #[.int .i64 0,.int .i64 0],by simp [results,Tryz.results76,go_sem,r1,r2],rfl,Ext.rO ((G0.below.setCell (p:=⟨w.heap.size,0,none⟩) (by simp) _).setCell (p:=⟨w.heap.size+1,0,none⟩) (by simp) _)⟩
end Go.Proofs.YtcmnpelmmekdkaaGreatDoor
end
section
namespace Go.Proofs.YtcmnpelmmekdkaaGreatDoor
open Go.RowKit Go.Shelf
attribute [local go_sem] Oper.semAt_some
def oL (W:World) (A:Nat) (pre:List ByteArray):Prop :=
 (∀ j,j<8→∃ v,W.cell? ⟨A,j,none⟩=some v∧W.frozen? ⟨A,j,none⟩=false)∧∀ i x,pre[i]? = some x→i<8∧W.cell? ⟨A,7 - i,none⟩=some (.string x)
theorem oL.still {W W':World} {A:Nat} {pre:List ByteArray} {row:Option Nat} (h:oL W A pre) (hg:W.grownBy W' row) (hr:∀ r,row=some r→∃ o:Obj,W.heap[r]? = some o∧o.isCells=false):oL W' A pre :=
 ⟨fun j hj=>by obtain ⟨v,h1,h2⟩:=h.1 j hj; exact ⟨v,sD h1 hg hr,(frozen_kept h1 hg hr).trans h2⟩,fun i x hx=>⟨(h.2 i x hx).1,sD (h.2 i x hx).2 hg hr⟩⟩
theorem Nf {W:World} {b1 b2 o1 o2:Nat} {u:Value} (h:b1≠b2):(W.setCell ⟨b1,o1,none⟩ u).cell? ⟨b2,o2,none⟩=W.cell? ⟨b2,o2,none⟩ :=
 World.cell?_of_block (Below.heap_setCell W ⟨b1,o1,none⟩ u b2 (fun e=>h e.symm))
theorem Ng {W:World} {B B' o:Nat} {t:TypeId} {u v:Value} (h:Boxed W B t v) (aJ:B'≠B):Boxed (W.setCell ⟨B',o,none⟩ u) B t v :=
 (Below.heap_setCell W ⟨B',o,none⟩ u B (fun e=>aJ e.symm)).trans h
theorem oL.off {W:World} {A B o:Nat} {pre:List ByteArray} {u:Value} (h:oL W A pre) (aJ:B≠A):oL (W.setCell ⟨B,o,none⟩ u) A pre :=
 ⟨fun j hj=>by obtain ⟨v,h1,h2⟩:=h.1 j hj; exact ⟨v,(Nf aJ).trans h1,by rw [World.frozen?_setCell]; exact h2⟩,fun i x hx=>⟨(h.2 i x hx).1,(Nf aJ).trans (h.2 i x hx).2⟩⟩
theorem oL.put {W:World} {A m:Nat} {pre:List ByteArray} (x:ByteArray) (h:oL W A pre) (hm:m+1+pre.length=8):oL (W.setCell ⟨A,m,none⟩ (.string x)) A (pre++[x]):=by
 obtain ⟨u,hu,-⟩:=h.1 m (by omega);have hs:(W.setCell ⟨A,m,none⟩ (.string x)).cell? ⟨A,m,none⟩=some (.string x):=World.cell?_setCell_same' _ _ _ (by rw [hu]; rfl);have ho:∀ j,j≠m→(W.setCell ⟨A,m,none⟩ (.string x)).cell? ⟨A,j,none⟩=W.cell? ⟨A,j,none⟩:=fun j hj=>by
  apply World.cell?_setCell_other;intro e;cases e;exact hj rfl
 refine ⟨fun j hj=>?_,fun i y hy=>?_⟩
 ·obtain ⟨v,h1,h2⟩:=h.1 j hj;by_cases e:j=m
  ·subst e;exact ⟨_,hs,by rw [World.frozen?_setCell]; exact h2⟩
  ·exact ⟨v,(ho j e).trans h1,by rw [World.frozen?_setCell]; exact h2⟩
 ·have hl:i<pre.length+1:=by have:=(List.getElem?_eq_some_iff.1 hy).1; simpa using this
  by_cases e:i=pre.length
  ·subst e;rw [List.getElem?_append_right (Nat.le_refl _)] at hy;simp at hy;subst hy;refine ⟨by omega,?_⟩;rw [show 7 - pre.length=m by omega];exact hs
  ·rw [List.getElem?_append_left (by omega)] at hy;exact ⟨(h.2 i y hy).1,(ho _ (by omega)).trans (h.2 i y hy).2⟩
set_option maxRecDepth 100000 in
set_option maxHeartbeats 4000000 in
theorem Wb (s:ByteArray) (w:World) (hv:Nm.valid (az s)=true) :
  Calls Tryz.prog 153 #[.string s] w fun e w'=>∃ (B k:Nat),(Nm.back s≠[]→k+(Nm.back s).length=8)∧e = .returned (.tuple #[.slice (some ⟨B,k,none⟩) (Nm.back s).length (Nm.back s).length,.int .i64 0])∧Ext w w'∧w.heap.size≤B∧∀ i x,(Nm.back s)[i]? = some x→w'.cell? ⟨B,7 - i,none⟩=some (.string x):=by
 have uF:=Nm.wS s hv;have HV:=Lib.hid hv;clear hv;refine (callsIn_wide (n:=5)).1 ?_;refine callsIn_of_wp_marks Tryz.func153 rfl trivial ?_ rfl;simp only [Tryz.ntmps153,List.size_toArray,List.length_cons,List.length_nil,Nat.reduceAdd,Nat.reduceSub,Array.replicate_succ,Array.replicate_zero,List.push_toArray,List.append_toArray,List.nil_append,List.cons_append]
 gi_wp2_with fail
 refine ⟨trivial,?_⟩;refine (callsIn_wide.2 (iq s _ (by unfold maxLen; omega))).mono ?_;rintro e w1 ⟨rfl,dL⟩;rw [HV.out]
 gi_wp2_with fail
 have Nh:=run_make (P:=Tryz.prog) w1 32 9 _ _ rfl rfl rfl .i64 .i64 8 8 (by omega) (by omega) (by decide) (by omega);have bX:∃ mR:Array Value,mR.size=8∧Sem.run Tryz.prog (Instr.makeSlice 32 (.int .i64 8) (.int .i64 8)) w1 = .ok (.slice (some ⟨w1.heap.size,0,none⟩) 8 8) (w1.alloc (.cells mR 9)):=⟨_,size_madeCells _ _,Nh⟩;obtain ⟨mR,Wc,cR⟩:=bX;clear Nh;rw [cR];clear cR
 gi_wp2_with fail
 have b1:Boxed (((w1.alloc (.cells mR 9)).alloc (.cells #[.slice (some ⟨w1.heap.size,0,none⟩) 8 8] 32)).alloc (.cells #[.int .i64 8] 3)) (w1.heap.size+1) 32 (.slice (some ⟨w1.heap.size,0,none⟩) 8 8):=by
  have:=Boxed.new (w1.alloc (.cells mR 9)) 32 (.slice (some ⟨w1.heap.size,0,none⟩) 8 8);rw [World.size_alloc] at this;exact this.alloc _
 have b2:Boxed (((w1.alloc (.cells mR 9)).alloc (.cells #[.slice (some ⟨w1.heap.size,0,none⟩) 8 8] 32)).alloc (.cells #[.int .i64 8] 3)) (w1.heap.size+1+1) 3 (.int .i64 8):=by
  have:=Boxed.new ((w1.alloc (.cells mR 9)).alloc (.cells #[.slice (some ⟨w1.heap.size,0,none⟩) 8 8] 32)) 3 (.int .i64 8)
  rwa [World.size_alloc,World.size_alloc] at this
 have b0:oL (((w1.alloc (.cells mR 9)).alloc (.cells #[.slice (some ⟨w1.heap.size,0,none⟩) 8 8] 32)).alloc (.cells #[.int .i64 8] 3)) w1.heap.size []:=by
  refine ⟨fun j hj=>?_,by simp⟩;have hblk:(((w1.alloc (.cells mR 9)).alloc (.cells #[.slice (some ⟨w1.heap.size,0,none⟩) 8 8] 32)).alloc (.cells #[.int .i64 8] 3)).heap[w1.heap.size]? = some (.cells mR 9):=by
   have h1:=World.alloc_heap_new w1 (.cells mR 9);exact (Below.heap_alloc _ _ _ (by simp; omega)).trans ((Below.heap_alloc _ _ _ (by simp)).trans h1)
  exact ⟨mR[j]'(by omega),by simp [World.cell?,hblk,Wc,hj],by simp [World.frozen?,hblk]⟩
 have jt:Below w.heap.size w (((w1.alloc (.cells mR 9)).alloc (.cells #[.slice (some ⟨w1.heap.size,0,none⟩) 8 8] 32)).alloc (.cells #[.int .i64 8] 3)):=(((dL.alloc _).alloc _).alloc _).below;have CY:w.heap.size≤w1.heap.size:=dL.below.size;have h8:(Nm.back s).length≤8:=by
  by_cases hr:az s=[46]
  ·simp [Nm.back,Nm.labels,hr]
  ·exact ((Nm.L6 s hr uF).1 HV.out).1
 refine Gj rfl (by omega) (gf:=111) (fb := #[.string s]) (lb := #[]) rfl trivial (enters_of Tryz.func111 (by kernel_rfl) rfl)
  (Gs 4 (by omega) s (by unfold maxLen; omega) _) (fun _ _=>trivial) (fun _ _ _ _ _ _ _ _=>trivial) (Below.refl _ _) (fun _=>rfl)
  (fun pre W=>(oL W w1.heap.size pre∧Boxed W (w1.heap.size+1) 32 (.slice (some ⟨w1.heap.size,0,none⟩) 8 8)∧∃ n:Nat,n+pre.length=8∧Boxed W (w1.heap.size+1+1) 3 (.int .i64 n))∧Below w.heap.size w W)
  (fun c pre W=>False∧Below w.heap.size w W)
  (OwnFrom.and (Own.from (fun pre A B row hs hg hr=>by
   obtain ⟨g0,g1,n,g3,g4⟩:=hs
   exact ⟨g0.still hg hr,Boxed.still g1 hg hr,n,g3,Boxed.still g4 hg hr⟩) _) (ownFrom_below (Nat.le_refl _) (by simp; omega)))
  (fun c=>OwnFrom.and (Own.from (fun pre A B row hs hg hr=>hs.elim) _) (ownFrom_below (Nat.le_refl _) (by simp; omega)))
  ⟨⟨b0,b1,8,rfl,b2⟩,jt⟩
  (fun x=>{ tmps := #[.string s,undef,.slice none 0 0,.int .i64 0,.string s,.pointer (some ⟨w1.heap.size+1,0,none⟩),.pointer (some ⟨w1.heap.size+1+1,0,none⟩),.func (.func 111) #[.string s] #[],.string x,.string s,.string s,.bool true,.bool false,.slice (some ⟨w1.heap.size,0,none⟩) 8 8,.slice (some ⟨w1.heap.size,0,none⟩) 8 8,.int .i64 8,.string s,.func (.func 111) #[.string s] #[],.func (.func 111) #[.string s] #[],.string x,undef,undef,undef,undef,undef,undef,undef,undef,undef,undef,undef,undef,undef],defers:=[] }) ?assign ?body ?done ?stop
 case assign =>
  intro l x W K hK
  gi_wp2
  exact hK
 case body =>
  rintro l pre x W ⟨⟨g0,g1,n,hn,g2⟩,hB⟩ hlen;have ma:1≤n:=by omega
  obtain ⟨m,rfl⟩:∃ m,n=m+1:=⟨n - 1,by omega⟩;obtain ⟨old,r1,r1f⟩:=g0.1 m (by omega);have k1:=g1.cell;have xg:=g1.frozen;have k2:=g2.cell;have xh:=g2.frozen;clear b0 b1 b2 jt
  gi_wp2_with fail
  refine ⟨(KeepsOthers.setCell _ _ _).trans (KeepsOthers.setCell _ _ _),trivial,⟨(g0.off (by omega)).put x (by omega),Ng (g1.other (by omega) _) (by omega),m,by simp; omega,Ng (g2.set _) (by omega)⟩,?_⟩;exact (hB.setCell (p:=⟨w1.heap.size+1+1,0,none⟩) (by simp; omega) _).setCell (p:=⟨w1.heap.size,m,none⟩) (by simp; omega) _
 case done =>
  rintro D ys W hD sE ⟨⟨g0,g1,n,hn,g2⟩,hB⟩ hK;have k1:=g1.cell;have xg:=g1.frozen;have k2:=g2.cell;have xh:=g2.frozen;clear b0 b1 b2 jt;have HY:Hid (ys=Nm.back s):=sE;have HG:=Lib.hid g0;have HN:=Lib.hid hn;clear sE g0 h8
  gi_wp2
  all_goals
   refine ⟨by simp,.inl ⟨_,_,rfl,run_takeDeferred hK,?_⟩⟩;have Wd:=HG.out.still (grownBy_putObj' _ D (.deferred none)) (fun r e=>by cases e; exact ⟨_,hK,rfl⟩);have ez:=hB.trans (belowK_b (w:=w) (Nat.le_refl _) W D _ (.deferred none) (by simp at hD; omega) hK rfl rfl);have hn:=HN.out
  ·have We:ys=[]:=List.length_eq_zero_iff.1 (by omega);have iG:Nm.back s=[]:=by rw [← HY.out]; exact We
   refine ⟨.tuple #[.slice (some ⟨w1.heap.size,0,none⟩) 0 0,.int .i64 0],by simp [results,Tryz.results153,go_sem],w1.heap.size,0,fun h=>absurd iG h,by rw [iG]; rfl,Ext.rO ez,CY,fun i x hx=>by rw [iG] at hx; simp at hx⟩
  ·have Wf:=HY.out;subst Wf;refine ⟨.tuple #[.slice (some ⟨w1.heap.size,n,none⟩) (8 - n) (8 - n),.int .i64 0],by simp [results,Tryz.results153,go_sem],w1.heap.size,n,fun _=>hn,by rw [show (Nm.back s).length=8 - n by omega],Ext.rO ez,CY,fun i x hx=>(Wd.2 i x hx).2⟩
 case stop =>
  rintro D c pre W hD nF ⟨hf,-⟩ hK;exact hf.elim
set_option maxRecDepth 100000 in
set_option maxHeartbeats 4000000 in
theorem Wg (s:ByteArray) (w:World) (hs:s.size≤maxLen) (hv:Nm.valid (az s)=false) :
  Calls Tryz.prog 153 #[.string s] w fun e w'=>e = .returned (.tuple #[.slice none 0 0,.int .i64 11])∧Ext w w':=by
 refine (callsIn_wide (n:=5)).1 ?_;refine callsIn_of_wp_marks Tryz.func153 rfl trivial ?_ rfl;simp only [Tryz.ntmps153,List.size_toArray,List.length_cons,List.length_nil,Nat.reduceAdd,Nat.reduceSub,Array.replicate_succ,Array.replicate_zero,List.push_toArray,List.append_toArray,List.nil_append,List.cons_append]
 gi_wp2_with fail
 refine ⟨trivial,?_⟩;refine (callsIn_wide.2 (iq s _ hs)).mono ?_;rintro e w1 ⟨rfl,dL⟩;rw [hv]
 gi_wp2_with fail
 exact ⟨_,by simp [results,Tryz.results153,go_sem],rfl,dL⟩
end Go.Proofs.YtcmnpelmmekdkaaGreatDoor
end
