/- Several texts of mine, one behind the other. Conditions: as each says. -/
import Derived.Test.YthikfaephakahaaGreatDoorZM5
import Derived.Lib.Bytealg
import Derived.RangeFuncBox
import Derived.RangeFuncFrom
import Derived.RangeFuncNested
import Derived.Laws.MakeOwn
set_option linter.unusedVariables false
set_option linter.unusedSimpArgs false
section
namespace Go.Proofs.YthikfaephakahaaGreatDoor
open Go.RowKit Go.Shelf
attribute [local go_sem] Oper.semAt_some
set_option maxHeartbeats 1000000 in
set_option maxRecDepth 100000 in
theorem cmpString_any (a b:ByteArray) (w:World) :
  Calls Tryz.prog 270 #[.string a,.string b] w fun e w'=>e = .returned (.int .i64 (Lib.compareBytes (toL a) (toL b)))∧w'=w:=by
 go_enter Tryz.func270,Tryz.ntmps270
 go_wp2
 rw [run_callFunc_extern Tryz.func299 (by kernel_rfl) (by kernel_rfl) (by kernel_rfl) (e:=Extern.BytealgCompare.compare) (by kernel_rfl),Lib.run_compareString];simp only [Result.andThen];rw [Oper.upon_value]
 go_wp2
 go_ret
 exact ⟨rfl,rfl⟩
set_option maxHeartbeats 1000000 in
theorem scompare_any (a b:ByteArray) (w:World) :
  Calls Tryz.prog 201 #[.string a,.string b] w fun e w'=>e = .returned (.int .i64 (Lib.compareBytes (toL a) (toL b)))∧w'=w:=by
 go_enter Tryz.func201,Tryz.ntmps201
 go_wp2_with (go_at_call 270; refine (cmpString_any _ _ _).mono ?_; rintro e w' ⟨rfl,rfl⟩)
 go_ret
 exact ⟨rfl,rfl⟩
def Pulled (rest:ByteArray) (bm br:Nat) (w:World) (e:Ending) (w':World):Prop :=
 ∃ x,e = .returned (.tuple #[.string x,.bool true])∧((Nm.split (toL rest)=[toL x]∧w'=w.setCell ⟨bm,0,none⟩ (.bool false)) ∨
  ∃ r',r'.size≤rest.size∧Nm.split (toL rest)=Nm.split (toL r')++[toL x]∧w'=w.setCell ⟨br,0,none⟩ (.string r'))
set_option maxHeartbeats 1000000 in
set_option maxRecDepth 100000 in
theorem pullNo_any (bm br:Nat) (w:World) (h1:w.cell? ⟨bm,0,none⟩=some (.bool false)) :
  Calls Tryz.prog 269 #[.pointer (some ⟨bm,0,none⟩),.pointer (some ⟨br,0,none⟩)] w fun e w'=>e = .returned (.tuple #[.string ⟨#[]⟩,.bool false])∧w'=w:=by
 go_enter Tryz.func269,Tryz.ntmps269
 go_wp2
 go_ret2
 exact ⟨rfl,rfl⟩
set_option maxHeartbeats 1000000 in
set_option maxRecDepth 100000 in
theorem pull_any (rest:ByteArray) (bm br:Nat) (w:World) (hs:rest.size≤60) (h1:w.cell? ⟨bm,0,none⟩=some (.bool true)) (f1:w.frozen? ⟨bm,0,none⟩=false) (h2:w.cell? ⟨br,0,none⟩=some (.string rest)) (f2:w.frozen? ⟨br,0,none⟩=false) :
  Calls Tryz.prog 269 #[.pointer (some ⟨bm,0,none⟩),.pointer (some ⟨br,0,none⟩)] w (Pulled rest bm br w):=by
 go_enter Tryz.func269,Tryz.ntmps269
 go_wp2_with fail
 refine (lastIndex_any rest 46 _ (by unfold maxLen; omega)).mono ?_;rintro e w' ⟨i,rfl,hi,rfl⟩;have HI:=Lib.hid hi;obtain ⟨hi1,hi2,_,_⟩:=hi;by_cases hneg:0≤i
 ·obtain ⟨m,rfl⟩:=Int.eq_ofNat_of_zero_le hneg;have HS:=Lib.hid (Nm.last_some rest m HI.out)
  go_wp2_with fail
  go_ret2
  refine ⟨rest.extract (m+1) rest.size,rfl,.inr ⟨rest.extract 0 m,by rw [ByteArray.size_extract]; omega,?_,rfl⟩⟩;rw [HS.out,Nm.take_bytes,Nm.drop_bytes]
 ·obtain rfl:i = -1:=by omega
  have HS:=Lib.hid (Nm.split_nodot _ (Nm.last_none rest HI.out));have hx:rest.extract 0 rest.size=rest:=toL_inj (by rw [Nm.take_bytes,List.take_of_length_le (Nat.le_of_eq (Nm.len rest))])
  go_wp2_with fail
  go_ret2
  exact ⟨rest,rfl,.inl ⟨HS.out,rfl⟩⟩
theorem toL_eq (s:ByteArray):s.toList=toL s:=by rw [ByteArray.toList_eq]
structure PullerAt (s:ByteArray) (w w':World):Prop where
 ext:Ext w w'
 size:w'.heap.size=w.heap.size+2
 rest:Boxed w' w.heap.size 9 (.string s)
 more:Boxed w' (w.heap.size+1) 4 (.bool (!s.toList==[46]))
set_option maxHeartbeats 1000000 in
set_option maxRecDepth 100000 in
theorem puller_any (s:ByteArray) (w:World) :
  Calls Tryz.prog 200 #[.string s] w fun e w'=>e = .returned (.func (.func 269) #[] #[.pointer (some ⟨w.heap.size+1,0,none⟩),.pointer (some ⟨w.heap.size,0,none⟩)])∧PullerAt s w w':=by
 go_enter Tryz.func200,Tryz.ntmps200
 go_wp2
 go_ret
 refine ⟨rfl,((Ext.refl w).alloc _).alloc _,by simp,(Boxed.new w _ _).alloc _,?_⟩;have:=Boxed.new (w.alloc (.cells #[.string s] 9)) 4 (.bool (!s.toList==[46]))
 rwa [World.size_alloc] at this
def cmpB:List ByteArray→List ByteArray→Int
 | [],[]=>0
 | [],_::_ => -1
 |_::_,[]=>1
 |x::l,y::m=>if Lib.compareBytes (toL x) (toL y)≠0 then Lib.compareBytes (toL x) (toL y) else cmpB l m
theorem compareBytes_self:∀ (l:List UInt8),Lib.compareBytes l l=0
 | []=>rfl
 |c::l=>by
  have:¬ c<c:=by simp
  simp [Lib.compareBytes,this,compareBytes_self l]
theorem cmpB_pre:∀ (p l m:List ByteArray),cmpB (p++l) (p++m)=cmpB l m
 | [],_,_=>rfl
 |x::p,l,m=>by
  simp only [List.cons_append,cmpB,compareBytes_self,ne_eq,not_true_eq_false,if_false];exact cmpB_pre p l m
theorem cmpB_none {A B pre:List ByteArray} {x:ByteArray} (h1:pre=B.take pre.length) (h2:B.drop pre.length=[]) (h3:pre++[x] <+: A):cmpB A B=1:=by
 obtain ⟨r,rfl⟩:=h3;have hB:B=pre:=by
  have:=List.take_append_drop pre.length B;rw [h2,← h1,List.append_nil] at this;exact this.symm
 rw [hB];have:=cmpB_pre pre (x::r) [];rw [List.append_nil] at this;rw [List.append_assoc,List.singleton_append,this];rfl
theorem cmpB_at {A B pre m:List ByteArray} {x y:ByteArray} (h1:pre=B.take pre.length) (h2:B.drop pre.length=y::m) (h3:pre++[x] <+: A) (h4:Lib.compareBytes (toL x) (toL y)≠0):cmpB A B=Lib.compareBytes (toL x) (toL y):=by
 obtain ⟨r,rfl⟩:=h3;have hB:B=pre++y::m:=by
  have:=List.take_append_drop pre.length B;rw [h2,← h1] at this;exact this.symm
 have hc:=cmpB_pre pre (x::r) (y::m);rw [← hB] at hc;rw [List.append_assoc,List.singleton_append,hc,cmpB,if_pos h4]
theorem cmpB_done {A B:List ByteArray} (h1:A=B.take A.length) (h2:A≠B):cmpB A B = -1:=by
 cases hd:B.drop A.length with
 |nil =>
  have:=List.take_append_drop A.length B;rw [hd,← h1,List.append_nil] at this;exact absurd this h2
 |cons y m =>
  have hB:B=A++y::m:=by
   have:=List.take_append_drop A.length B;rw [hd,← h1] at this;exact this.symm
  have hc:=cmpB_pre A [] (y::m);rw [List.append_nil,← hB] at hc;rw [hc];rfl
theorem compareBytes_zero:∀ {l m:List UInt8},Lib.compareBytes l m=0→l=m
 | [],[],_=>rfl
 | [],_::_,h=>by simp [Lib.compareBytes] at h
 |_::_,[],h=>by simp [Lib.compareBytes] at h
 |c::l,d::m,h=>by
  simp only [Lib.compareBytes] at h;split at h
  ·simp at h
  ·split at h
   ·simp at h
   ·rename_i h1 h2;have:c=d:=UInt8.le_antisymm (UInt8.not_lt.1 h2) (UInt8.not_lt.1 h1);rw [this,compareBytes_zero h]
theorem drop_cons {α:Type} {B m:List α} {n:Nat} {y:α} (h:B.drop n=y::m):B.take (n+1)=B.take n++[y]∧B.drop (n+1)=m:=by
 have h1:B[n]? = some y:=by
  have:=congrArg (fun l=>l[0]?) h
  simpa using this
 have h2:B.drop (n+1)=m:=by
  have:=congrArg List.tail h
  simpa using this
 exact ⟨by rw [List.take_add_one,h1]; rfl,h2⟩
def PullSt (rest:ByteArray) (more:Bool) (R:List ByteArray):Prop:=(more=false∧R=[])∨(more=true∧R=(Nm.split (toL rest)).reverse.map bs)
theorem Boxed.still {W W':World} {row:Option Nat} {B:Nat} {t:TypeId} {v:Value} (h:Boxed W B t v) (hg:W.grownBy W' row) (hr:∀ r,row=some r→∃ o:Obj,W.heap[r]? = some o∧o.isCells=false):Boxed W' B t v :=
 h.kept hg fun e=>by
  obtain ⟨o,ho,hc⟩:=hr B e.symm;rw [show W.heap[B]? = _ from h] at ho;cases ho;cases hc
theorem labels_inj {a b:List UInt8} (h:Nm.labels a=Nm.labels b):a=b:=by
 unfold Nm.labels at h;split at h
 ·split at h
  ·simp_all
  ·exact absurd h.symm (Nm.split_ne _)
 ·split at h
  ·exact absurd h (Nm.split_ne _)
  ·exact Nm.split_inj _ _ h
theorem back_inj {a b:ByteArray} (h:Nm.back a=Nm.back b):toL a=toL b:=by
 unfold Nm.back at h;have h1:=congrArg (List.map toL) h;simp only [List.map_map] at h1;have e:∀ l:List (List UInt8),l.map (toL ∘ bs)=l:=fun l=>by
  induction l with
  |nil=>rfl
  |cons x l ih=>rw [List.map_cons,ih]; simp [toL_bs]
 rw [e,e] at h1;exact labels_inj (List.reverse_inj.1 h1)
set_option maxRecDepth 100000 in
set_option maxHeartbeats 4000000 in
theorem compare_ne (a b:ByteArray) (w:World) (ha:Nm.valid (toL a)=true) (hb:Nm.valid (toL b)=true) (hne:¬ toL a=toL b) :
  Calls Tryz.prog 135 #[.string a,.string b] w fun e w'=>e = .returned (.tuple #[.int .i64 (cmpB (Nm.back a) (Nm.back b)),.int .i64 0])∧Ext w w':=by
 have HNE:=Lib.hid (fun h=>hne (back_inj h));have ha60:=Nm.valid_bsize a ha;have hb60:=Nm.valid_bsize b hb;have hab:(a.toList==b.toList)=false:=by rw [toL_eq,toL_eq]; simp only [beq_eq_false_iff_ne]; exact hne
 have HA:=Lib.hid ha;have HB:=Lib.hid hb;clear ha hb hne;refine (callsIn_wide (n:=5)).1 ?_;refine callsIn_of_wp_marks Tryz.func135 rfl trivial ?_ rfl;simp only [Tryz.ntmps135,List.size_toArray,List.length_cons,List.length_nil,Nat.reduceAdd,Nat.reduceSub,Array.replicate_succ,Array.replicate_zero,List.push_toArray,List.append_toArray,List.nil_append,List.cons_append]
 gi_wp2_with fail
 refine ⟨trivial,?_⟩;refine (callsIn_wide.2 (tvalid_any a _ (by unfold maxLen; omega))).mono ?_;rintro e w1 ⟨rfl,hx1⟩;rw [HA.out]
 gi_wp2_with fail
 refine ⟨trivial,?_⟩;refine (callsIn_wide.2 (tvalid_any b _ (by unfold maxLen; omega))).mono ?_;rintro e w2 ⟨rfl,hx2⟩;rw [HB.out]
 gi_wp2_with fail
 refine ⟨trivial,?_⟩;refine (callsIn_wide.2 (puller_any b _)).mono ?_;rintro e w3 ⟨rfl,hp⟩
 gi_wp2_with fail
 have hex0:Ext w w2:=((((Ext.refl w).alloc _).alloc _).trans hx1).trans hx2;have b1:Boxed w2 w.heap.size 3 (.int .i64 0):=by
  have h0:Boxed ((w.alloc (.cells #[.int .i64 0] 3)).alloc (.cells #[.int .i64 0] 27)) w.heap.size 3 (.int .i64 0):=(Boxed.new w _ _).alloc _;have h1:Boxed w1 w.heap.size 3 (.int .i64 0):=(hx1.block _ h0.lt).trans h0;exact (hx2.block _ h1.lt).trans h1
 have b2:Boxed w2 (w.heap.size+1) 27 (.int .i64 0):=by
  have h0:Boxed ((w.alloc (.cells #[.int .i64 0] 3)).alloc (.cells #[.int .i64 0] 27)) (w.heap.size+1) 27 (.int .i64 0):=by
   have:=Boxed.new (w.alloc (.cells #[.int .i64 0] 3)) 27 (.int .i64 0)
   rwa [World.size_alloc] at this
  have h1:Boxed w1 (w.heap.size+1) 27 (.int .i64 0):=(hx1.block _ h0.lt).trans h0;exact (hx2.block _ h1.lt).trans h1
 have hlt1:=b1.lt;have hlt2:=b2.lt;obtain ⟨clos,hclos⟩:∃ clos:Value,clos = .func (.func 269) #[] #[.pointer (some ⟨w2.heap.size+1,0,none⟩),.pointer (some ⟨w2.heap.size,0,none⟩)]:=⟨_,rfl⟩;have b3:=(show Boxed w3 w.heap.size 3 (.int .i64 0) from (hp.ext.block _ b1.lt).trans b1).alloc (.cells #[clos] 256);have b4:=(show Boxed w3 (w.heap.size+1) 27 (.int .i64 0) from (hp.ext.block _ b2.lt).trans b2).alloc (.cells #[clos] 256);have b5:=hp.rest.alloc (.cells #[clos] 256);have b6:=hp.more.alloc (.cells #[clos] 256);have b7:=Boxed.new w3 256 clos;have hsz3:=hp.size;have hB0:Below w.heap.size w (w3.alloc (.cells #[clos] 256)):=((hex0.trans hp.ext).alloc _).below;rw [← hclos];generalize hW0:w3.alloc (.cells #[clos] 256)=W0 at *;have hsz0:W0.heap.size=w2.heap.size+3:=by rw [← hW0,World.size_alloc,hsz3]
 have hback:Nm.back b=if toL b=[46] then [] else (Nm.split (toL b)).reverse.map bs:=by
  unfold Nm.back Nm.labels;split <;> simp
 have hst0:PullSt b (!b.toList==[46]) (Nm.back b):=by
  rw [hback,toL_eq];by_cases hr:toL b=[46]
  ·left; simp [hr]
  ·right; simp [hr]
 clear hW0 hp hx1 hx2 b1 b2;rw [hsz3] at b7 ⊢;clear hsz3;refine range_bound rfl (by omega) (gf:=196) (fb := #[.string a]) (lb := #[]) rfl trivial (enters_of Tryz.func196 (by kernel_rfl) rfl)
  (backwards_in 4 (by omega) a (by unfold maxLen; omega) _) (fun _ _=>trivial) (fun _ _ _ _ _ _ _ _=>trivial) (Below.refl _ _) (fun _=>rfl)
  (fun pre W=>(∃ (rest:ByteArray) (more:Bool),Boxed W w.heap.size 3 (.int .i64 0)∧Boxed W (w.heap.size+1) 27 (.int .i64 0)∧Boxed W (w2.heap.size+2) 256 clos∧Boxed W (w2.heap.size+1) 4 (.bool more)∧Boxed W w2.heap.size 9 (.string rest)∧rest.size≤60∧PullSt rest more ((Nm.back b).drop pre.length)∧pre=(Nm.back b).take pre.length)∧Below w.heap.size w W)
  (fun c pre W=>(c = .ret∧∃ v,Boxed W w.heap.size 3 (.int .i64 v)∧Boxed W (w.heap.size+1) 27 (.int .i64 0)∧(pre <+: Nm.back a→v=cmpB (Nm.back a) (Nm.back b)))∧Below w.heap.size w W)
  (OwnFrom.and (Own.from (fun pre A B row hs hg hr=>by
   obtain ⟨rest,more,g1,g2,g3,g4,g5,g6⟩:=hs
   exact ⟨rest,more,Boxed.still g1 hg hr,Boxed.still g2 hg hr,Boxed.still g3 hg hr,Boxed.still g4 hg hr,Boxed.still g5 hg hr,g6⟩) _) (ownFrom_below (Nat.le_refl _) (by omega)))
  (fun c=>OwnFrom.and (Own.from (fun pre A B row hs hg hr=>by
   obtain ⟨e,v,g1,g2,g3⟩:=hs
   exact ⟨e,v,Boxed.still g1 hg hr,Boxed.still g2 hg hr,g3⟩) _) (ownFrom_below (Nat.le_refl _) (by omega)))
  ⟨⟨b,_,b3,b4,b7,b6,b5,hb60,hst0,by simp⟩,hB0⟩
  (fun x=>{ tmps := #[.string a,.string b,undef,undef,.pointer (some ⟨w.heap.size,0,none⟩),.pointer (some ⟨w.heap.size+1,0,none⟩),.string a,.string b,   .pointer (some ⟨w2.heap.size+2,0,none⟩),.func (.func 196) #[.string a] #[],.string x,undef,undef,undef,.string a,.string b,.string a,.bool true,.bool false,.bool false,.string b,.bool true,.bool false,.bool false,.string a,.string b,.bool false,.string b,clos,.string a,.func (.func 196) #[.string a] #[],.func (.func 196) #[.string a] #[],.string x,undef,undef,undef,undef,undef,undef,undef,undef,undef,undef,undef,undef,undef],defers:=[] }) ?assign ?body ?done ?stop
 case assign =>
  intro l x W K hK;subst hclos
  gi_wp2
  exact hK
 case body =>
  rintro l pre x W ⟨⟨rest,more,g1,g2,g3,g4,g5,g6,hst,hpre⟩,hB⟩ hlen;have HST:=Lib.hid hst;have HPR:=Lib.hid hpre;clear hst hpre hlen b3 b4 b5 b6 b7 hB0 hst0 hback hsz0;subst hclos;have n12:w.heap.size≠w.heap.size+1:=by omega
  have leave:∀ (W1:World) (v:Int),KeepsOthers W W1→Boxed W1 w.heap.size 3 (.int .i64 0)→Boxed W1 (w.heap.size+1) 27 (.int .i64 0)→Below w.heap.size w W1→(pre++[x] <+: Nm.back a→v=cmpB (Nm.back a) (Nm.back b)) →
    KeepsOthers W ((W1.setCell ⟨w.heap.size,0,none⟩ (.int .i64 v)).setCell ⟨w.heap.size+1,0,none⟩ (.int .i64 0))∧(∃ u,Boxed ((W1.setCell ⟨w.heap.size,0,none⟩ (.int .i64 v)).setCell ⟨w.heap.size+1,0,none⟩ (.int .i64 0)) w.heap.size 3 (.int .i64 u)∧Boxed ((W1.setCell ⟨w.heap.size,0,none⟩ (.int .i64 v)).setCell ⟨w.heap.size+1,0,none⟩ (.int .i64 0)) (w.heap.size+1) 27 (.int .i64 0)∧(pre++[x] <+: Nm.back a→u=cmpB (Nm.back a) (Nm.back b)))∧Below w.heap.size w ((W1.setCell ⟨w.heap.size,0,none⟩ (.int .i64 v)).setCell ⟨w.heap.size+1,0,none⟩ (.int .i64 0)) :=
   fun W1 v h0 h1 h2 h3 h4=>⟨(h0.trans (KeepsOthers.setCell _ _ _)).trans (KeepsOthers.setCell _ _ _),⟨v,(h1.set (.int .i64 v)).other n12 _,(h2.other n12.symm (.int .i64 v)).set (.int .i64 0),h4⟩,
    (h3.setCell (p:=⟨w.heap.size,0,none⟩) (by simp) _).setCell (p:=⟨w.heap.size+1,0,none⟩) (by simp) _⟩
  have LV:=Lib.hid leave;clear leave;have k1:=g1.cell;have k1f:=g1.frozen;have k2:=g2.cell;have k2f:=g2.frozen;have k3:=g3.cell;have k4:=g4.cell;have k4f:=g4.frozen;have k5:=g5.cell;have k5f:=g5.frozen;cases more
  ·gi_wp2_with fail
   refine ⟨trivial,?_⟩;refine (CallsIn.inRound l (callsIn_wide.2 (pullNo_any _ _ _ k4))).mono ?_;rintro e W1 ⟨rfl,rfl⟩
   gi_wp2_with fail
   obtain ⟨q1,q2,q3⟩:=LV.out _ 1 (KeepsOthers.refl _) g1 g2 hB fun hp=>by
    rcases HST.out with ⟨-,hd⟩ | ⟨h,-⟩
    ·exact (cmpB_none HPR.out hd hp).symm
    ·cases h
   exact ⟨q1,⟨rfl,q2⟩,q3⟩
  ·have hd:(Nm.back b).drop pre.length=(Nm.split (toL rest)).reverse.map bs:=by
    rcases HST.out with ⟨h,-⟩ | ⟨-,h⟩
    ·cases h
    ·exact h
   have HD:=Lib.hid hd;clear hd
   gi_wp2_with fail
   refine ⟨trivial,?_⟩;refine (CallsIn.inRound l (callsIn_wide.2 (pull_any rest _ _ _ g6 k4 k4f k5 k5f))).mono ?_;rintro e W1 ⟨y,rfl,hy⟩;clear k1 k1f k2 k2f k3 k4 k4f k5 k5f;have fin:∃ (rest':ByteArray) (more':Bool) (m:List ByteArray),(Nm.back b).drop pre.length=y::m∧PullSt rest' more' m∧rest'.size≤60∧Boxed W1 w.heap.size 3 (.int .i64 0)∧Boxed W1 (w.heap.size+1) 27 (.int .i64 0)∧Boxed W1 (w2.heap.size+2) 256 (.func (.func 269) #[] #[.pointer (some ⟨w2.heap.size+1,0,none⟩),.pointer (some ⟨w2.heap.size,0,none⟩)])∧Boxed W1 (w2.heap.size+1) 4 (.bool more')∧Boxed W1 w2.heap.size 9 (.string rest')∧KeepsOthers W W1∧Below w.heap.size w W1:=by
    rcases hy with ⟨hs,rfl⟩ | ⟨r',hr1,hr2,rfl⟩
    ·refine ⟨rest,false,[],?_,.inl ⟨rfl,rfl⟩,g6,g1.other (by omega) _,g2.other (by omega) _,g3.other (by omega) _,g4.set _,g5.other (by omega) _,KeepsOthers.setCell _ _ _,hB.setCell (p:=⟨w2.heap.size+1,0,none⟩) (by simp; omega) _⟩;rw [HD.out,hs];simp [bs_toL]
    ·refine ⟨r',true,(Nm.split (toL r')).reverse.map bs,?_,.inr ⟨rfl,rfl⟩,by omega,g1.other (by omega) _,g2.other (by omega) _,g3.other (by omega) _,g4.other (by omega) _,g5.set _,KeepsOthers.setCell _ _ _,hB.setCell (p:=⟨w2.heap.size,0,none⟩) (by simp; omega) _⟩;rw [HD.out,hr2];simp [bs_toL]
   clear hy g1 g2 g3 g4 g5;obtain ⟨rest',more',m,hm,hps,hr60,g1,g2,g3,g4,g5,hko,hB1⟩:=fin;have HM:=Lib.hid hm;have HPS:=Lib.hid hps;clear hm hps;have k1:=g1.cell;have k1f:=g1.frozen;have k2:=g2.cell;have k2f:=g2.frozen
   gi_wp2_with fail
   refine ⟨trivial,?_⟩;refine (CallsIn.inRound l (callsIn_wide.2 (scompare_any x y _))).mono ?_;rintro e W2 ⟨rfl,rfl⟩;generalize hcg:Lib.compareBytes (toL x) (toL y)=c;have HC:=Lib.hid hcg;clear hcg;by_cases hc:c=0
   ·subst hc
    gi_wp2_with fail
    have hxy:x=y:=toL_inj (compareBytes_zero HC.out);obtain ⟨d1,d2⟩:=drop_cons HM.out;have hl1:(pre++[x]).length=pre.length+1:=by simp
    refine ⟨hko,trivial,⟨rest',more',g1,g2,g3,g4,g5,hr60,?_,?_⟩,hB1⟩
    ·rw [hl1,d2]; exact HPS.out
    ·rw [hl1,d1,← HPR.out,hxy]
   ·have hcb:(c != 0)=true:=by simpa using hc
    gi_wp2_with fail
    obtain ⟨q1,q2,q3⟩:=LV.out _ c hko g1 g2 hB1 fun hp=>by
     have:=cmpB_at HPR.out HM.out hp (by rw [HC.out]; exact hc);rw [HC.out] at this;exact this.symm
    exact ⟨q1,⟨rfl,q2⟩,q3⟩
 case done =>
  rintro D ys W hD hys ⟨⟨rest,more,g1,g2,g3,g4,g5,g6,hst,hpre⟩,hB⟩ hK;have HY:Hid (ys=Nm.back a):=hys;have HPR:=Lib.hid hpre;clear hys hpre hst b3 b4 b5 b6 b7 hB0 hst0 hback;subst hclos;have k1:=g1.cell;have k1f:=g1.frozen;have k2:=g2.cell;have k2f:=g2.frozen
  gi_wp2
  have hv:cmpB (Nm.back a) (Nm.back b) = -1:=by
   rw [← HY.out];exact cmpB_done HPR.out (fun h=>HNE.out (HY.out ▸ h))
  have n12:w.heap.size≠w.heap.size+1:=by omega
  have q1:=(g1.set (.int .i64 (-1))).other n12 (.int .i64 0);have q2:=(g2.other n12.symm (.int .i64 (-1))).set (.int .i64 0);have hK':=((KeepsOthers.setCell W ⟨w.heap.size,0,none⟩ (.int .i64 (-1))).trans (KeepsOthers.setCell _ ⟨w.heap.size+1,0,none⟩ (.int .i64 0))).same D _ hK rfl;refine ⟨by simp,.inl ⟨_,_,rfl,run_takeDeferred hK',?_⟩⟩;have hg:=grownBy_putObj' ((W.setCell ⟨w.heap.size,0,none⟩ (.int .i64 (-1))).setCell ⟨w.heap.size+1,0,none⟩ (.int .i64 0)) D (.deferred none);have r1:=(Boxed.still q1 hg (fun r e=>by cases e; exact ⟨_,hK',rfl⟩)).cell;have r2:=(Boxed.still q2 hg (fun r e=>by cases e; exact ⟨_,hK',rfl⟩)).cell;refine ⟨.tuple #[.int .i64 (-1),.int .i64 0],?_,by rw [hv],Ext.ofBelow (((hB.setCell (p:=⟨w.heap.size,0,none⟩) (by simp) _).setCell (p:=⟨w.heap.size+1,0,none⟩) (by simp) _).trans (belowK_b (w:=w) (Nat.le_refl _) _ D _ _ (by omega) hK' rfl rfl))⟩;simp [results,Tryz.results135,go_sem,r1,r2]
 case stop =>
  rintro D c pre W hD hpre ⟨⟨rfl,v,g1,g2,hv⟩,hB⟩ hK;have HP:Hid (pre <+: Nm.back a):=hpre;have HV:=Lib.hid hv;clear hpre hv b3 b4 b5 b6 b7 hB0 hst0 hback;subst hclos
  gi_wp2
  refine ⟨by simp,.inl ⟨_,_,rfl,run_takeDeferred hK,?_⟩⟩;have hg:=grownBy_putObj' W D (.deferred none);have r1:=(Boxed.still g1 hg (fun r e=>by cases e; exact ⟨_,hK,rfl⟩)).cell;have r2:=(Boxed.still g2 hg (fun r e=>by cases e; exact ⟨_,hK,rfl⟩)).cell;refine ⟨.tuple #[.int .i64 v,.int .i64 0],?_,by rw [HV.out HP.out],Ext.ofBelow (hB.trans (belowK_b (w:=w) (Nat.le_refl _) W D _ _ (by omega) hK rfl rfl))⟩;simp [results,Tryz.results135,go_sem,r1,r2]
set_option maxRecDepth 100000 in
set_option maxHeartbeats 4000000 in
theorem compare_eq (a:ByteArray) (w:World) (ha:Nm.valid (toL a)=true) :
  Calls Tryz.prog 135 #[.string a,.string a] w fun e w'=>e = .returned (.tuple #[.int .i64 0,.int .i64 0])∧Ext w w':=by
 have ha60:=Nm.valid_bsize a ha;have hab:(a.toList==a.toList)=true:=by simp
 have HA:=Lib.hid ha;clear ha;refine (callsIn_wide (n:=5)).1 ?_;refine callsIn_of_wp_marks Tryz.func135 rfl trivial ?_ rfl;simp only [Tryz.ntmps135,List.size_toArray,List.length_cons,List.length_nil,Nat.reduceAdd,Nat.reduceSub,Array.replicate_succ,Array.replicate_zero,List.push_toArray,List.append_toArray,List.nil_append,List.cons_append]
 gi_wp2_with fail
 refine ⟨trivial,?_⟩;refine (callsIn_wide.2 (tvalid_any a _ (by unfold maxLen; omega))).mono ?_;rintro e w1 ⟨rfl,hx1⟩;rw [HA.out]
 gi_wp2_with fail
 refine ⟨trivial,?_⟩;refine (callsIn_wide.2 (tvalid_any a _ (by unfold maxLen; omega))).mono ?_;rintro e w2 ⟨rfl,hx2⟩;rw [HA.out];have hex0:Ext w w2:=((((Ext.refl w).alloc _).alloc _).trans hx1).trans hx2;have b1:Boxed w2 w.heap.size 3 (.int .i64 0):=by
  have h0:Boxed ((w.alloc (.cells #[.int .i64 0] 3)).alloc (.cells #[.int .i64 0] 27)) w.heap.size 3 (.int .i64 0):=(Boxed.new w _ _).alloc _;have h1:Boxed w1 w.heap.size 3 (.int .i64 0):=(hx1.block _ h0.lt).trans h0;exact (hx2.block _ h1.lt).trans h1
 have b2:Boxed w2 (w.heap.size+1) 27 (.int .i64 0):=by
  have h0:Boxed ((w.alloc (.cells #[.int .i64 0] 3)).alloc (.cells #[.int .i64 0] 27)) (w.heap.size+1) 27 (.int .i64 0):=by
   have:=Boxed.new (w.alloc (.cells #[.int .i64 0] 3)) 27 (.int .i64 0)
   rwa [World.size_alloc] at this
  have h1:Boxed w1 (w.heap.size+1) 27 (.int .i64 0):=(hx1.block _ h0.lt).trans h0;exact (hx2.block _ h1.lt).trans h1
 have k1:=b1.cell;have k1f:=b1.frozen;have k2:=b2.cell;have k2f:=b2.frozen
 gi_wp2_with fail
 have n12:w.heap.size≠w.heap.size+1:=by omega
 have r1:=((b1.set (.int .i64 0)).other n12 (.int .i64 0)).cell;have r2:=((b2.other n12.symm (.int .i64 0)).set (.int .i64 0)).cell;exact ⟨.tuple #[.int .i64 0,.int .i64 0],by simp [results,Tryz.results135,go_sem,r1,r2],rfl,Ext.ofBelow ((hex0.below.setCell (p:=⟨w.heap.size,0,none⟩) (by simp) _).setCell (p:=⟨w.heap.size+1,0,none⟩) (by simp) _)⟩
end Go.Proofs.YthikfaephakahaaGreatDoor
end
section
namespace Go.Proofs.YthikfaephakahaaGreatDoor
open Go.RowKit Go.Shelf
attribute [local go_sem] Oper.semAt_some
def LabRow (W:World) (A:Nat) (pre:List ByteArray):Prop :=
 (∀ j,j<8→∃ v,W.cell? ⟨A,j,none⟩=some v∧W.frozen? ⟨A,j,none⟩=false)∧∀ i x,pre[i]? = some x→i<8∧W.cell? ⟨A,7 - i,none⟩=some (.string x)
theorem LabRow.still {W W':World} {A:Nat} {pre:List ByteArray} {row:Option Nat} (h:LabRow W A pre) (hg:W.grownBy W' row) (hr:∀ r,row=some r→∃ o:Obj,W.heap[r]? = some o∧o.isCells=false):LabRow W' A pre :=
 ⟨fun j hj=>by obtain ⟨v,h1,h2⟩:=h.1 j hj; exact ⟨v,cell_kept' h1 hg hr,(frozen_kept h1 hg hr).trans h2⟩,fun i x hx=>⟨(h.2 i x hx).1,cell_kept' (h.2 i x hx).2 hg hr⟩⟩
theorem set_off {W:World} {b1 b2 o1 o2:Nat} {u:Value} (h:b1≠b2):(W.setCell ⟨b1,o1,none⟩ u).cell? ⟨b2,o2,none⟩=W.cell? ⟨b2,o2,none⟩ :=
 World.cell?_of_block (Below.heap_setCell W ⟨b1,o1,none⟩ u b2 (fun e=>h e.symm))
theorem LabRow.off {W:World} {A B o:Nat} {pre:List ByteArray} {u:Value} (h:LabRow W A pre) (hne:B≠A):LabRow (W.setCell ⟨B,o,none⟩ u) A pre :=
 ⟨fun j hj=>by obtain ⟨v,h1,h2⟩:=h.1 j hj; exact ⟨v,(set_off hne).trans h1,by rw [World.frozen?_setCell]; exact h2⟩,fun i x hx=>⟨(h.2 i x hx).1,(set_off hne).trans (h.2 i x hx).2⟩⟩
theorem LabRow.put {W:World} {A m:Nat} {pre:List ByteArray} (x:ByteArray) (h:LabRow W A pre) (hm:m+1+pre.length=8):LabRow (W.setCell ⟨A,m,none⟩ (.string x)) A (pre++[x]):=by
 obtain ⟨u,hu,-⟩:=h.1 m (by omega);have hs:(W.setCell ⟨A,m,none⟩ (.string x)).cell? ⟨A,m,none⟩=some (.string x):=World.cell?_setCell_same' _ _ _ (by rw [hu]; rfl);have ho:∀ j,j≠m→(W.setCell ⟨A,m,none⟩ (.string x)).cell? ⟨A,j,none⟩=W.cell? ⟨A,j,none⟩:=fun j hj=>by
  apply World.cell?_setCell_other;intro e;cases e;exact hj rfl
 refine ⟨fun j hj=>?_,fun i y hy=>?_⟩
 ·obtain ⟨v,h1,h2⟩:=h.1 j hj;by_cases e:j=m
  ·subst e;exact ⟨_,hs,by rw [World.frozen?_setCell]; exact h2⟩
  ·exact ⟨v,(ho j e).trans h1,by rw [World.frozen?_setCell]; exact h2⟩
 ·have hl:i<pre.length+1:=by have:=(List.getElem?_eq_some_iff.1 hy).1; simpa using this
  by_cases e:i=pre.length
  ·subst e;rw [List.getElem?_append_right (Nat.le_refl _)] at hy;simp at hy;subst hy;refine ⟨by omega,?_⟩;rw [show 7 - pre.length=m by omega];exact hs
  ·rw [List.getElem?_append_left (by omega)] at hy;exact ⟨(h.2 i y hy).1,(ho _ (by omega)).trans (h.2 i y hy).2⟩
end Go.Proofs.YthikfaephakahaaGreatDoor
end
