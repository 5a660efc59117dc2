/- Copies sorted by their starts. Conditions: a length that Go allows. -/
import Derived.Test.YthikfaephakahaaGreatDoorZSrtV
import Derived.Test.YthikfaephakahaaGreatDoorZShelf
import Derived.Test.YthikfaephakahaaGreatDoorZM7
set_option linter.unusedVariables false
set_option linter.unusedSimpArgs false
namespace Go.Proofs.YthikfaephakahaaGreatDoor.P
open Go Go.Eng Go.Sort Go.RowKit
set_option maxHeartbeats 1000000 in
theorem copyClosure (a b c d e f:Int) (v3 v4 u3 u4:Value) (W:World):Calls Tryz.prog 58 #[.agg #[.int .i64 a,.int .i64 b,.int .i64 c,v3,v4],.agg #[.int .i64 d,.int .i64 e,.int .i64 f,u3,u4]] W fun x w'=>x = .returned (.int .i64 (Lib.compareInt b e))∧∃ q os',w'=grow (W.drewN q) os':=by
 have hcon:=fun W'=>AnyG.cmp_Compare_int Tryz.cmpInt b e W';change ∀ W',Calls Tryz.prog 59 _ _ _ at hcon;generalize Lib.compareInt b e=r at hcon ⊢
 go_enter Tryz.func58,Tryz.ntmps58
 go_wp2_with (go_at_call 59; refine (hcon _).mono ?_; rintro e w' ⟨rfl,rfl⟩)
 go_ret
 exact ⟨rfl,0,_,by rw [alloc_eq_grow,alloc_eq_grow,grow_grow]; rfl⟩
theorem sortsCopy:SortsV Tryz.prog 57 58 5:=fun n enc cf hk h1 hO hc blk cap d w hH hblk hsz=>by
 have eg:∀ args w,(callFunc 58 args).run Tryz.prog w = .ok (.enter 58 args) w:=enters_of Tryz.func58 (by kernel_rfl) rfl;exact AnyQ.slices_SortFunc Tryz.sortCopy 5 Tryz.isAgg45 Tryz.sizeOf45 enc hk h1 cf hO 58 #[] blk 0 cap d w eg (fun _ _ _ _ x y=>hc x y _) hH hblk hsz
def cmpCopy (x y:DV):Int:=match x,y with
 | .agg [_,.int _ b,_,_,_],.agg [_,.int _ e,_,_,_]=>Lib.compareInt b e
 |_,_=>0
theorem cmpCopy_eq (x y:Copy):cmpCopy x.enc y.enc=Lib.compareInt x.frm y.frm:=rfl
theorem cmpInt_neg (a b:Int):Lib.compareInt a b<0↔a<b:=by
 unfold Lib.compareInt;by_cases h1:a<b
 ·simp [h1]
 ·by_cases h2:b<a <;> simp [h1,h2]
theorem cellsV_copy {x:Copy} {vs:List Value} (h:CellsV x.enc vs):∃ v3 v4,vs=[.int .i64 x.host,.int .i64 x.frm,.int .i64 x.upto,v3,v4]:=by
 obtain ⟨h1,h2⟩:=h;have h1:5=vs.length:=h1
 match vs,h1 with
 | [a,b,c,d,e],_ =>
  have e0:a = .int .i64 x.host:=(h2 0 (.int .i64 x.host) a rfl rfl).1;have e1:b = .int .i64 x.frm:=(h2 1 (.int .i64 x.frm) b rfl rfl).1;have e2:c = .int .i64 x.upto:=(h2 2 (.int .i64 x.upto) c rfl rfl).1;exact ⟨d,e,by rw [e0,e1,e2]⟩
theorem sortCopy_a (l:List Copy) (hl:l≠[]) (hlen:l.length<4611686018427387904) :
  ACalls E 57 [.arr 0 (45,5) (l.map Copy.enc)] [.own 0 0,.fn (.func 58) [] []] (fun a b=>a = .tup []∧∃ l':List Copy,l'.Perm l∧l'.Pairwise (fun x y=>x.frm≤y.frm)∧b=[.arr 0 (45,5) (l'.map Copy.enc)]):=by
 have h:=sortV_a (E:=E) (t:=45) Copy.enc cmpCopy sortsCopy ⟨_,Tryz.func57,rfl,by decide⟩ l hl hlen (fun x hx=>rfl)
  ⟨fun x hx => by obtain ⟨a, _, rfl⟩ := List.mem_map.1 hx; rw [cmpCopy_eq, cmpInt_neg]; omega,
   fun x hx y hy z hz => by obtain ⟨a, _, rfl⟩ := List.mem_map.1 hx; obtain ⟨b, _, rfl⟩ := List.mem_map.1 hy; obtain ⟨c, _, rfl⟩ := List.mem_map.1 hz; rw [cmpCopy_eq, cmpCopy_eq, cmpCopy_eq, cmpInt_neg, cmpInt_neg, cmpInt_neg]; omega,
   fun x hx y hy z hz => by obtain ⟨a, _, rfl⟩ := List.mem_map.1 hx; obtain ⟨b, _, rfl⟩ := List.mem_map.1 hy; obtain ⟨c, _, rfl⟩ := List.mem_map.1 hz; rw [cmpCopy_eq, cmpCopy_eq, cmpCopy_eq, cmpInt_neg, cmpInt_neg, cmpInt_neg]; omega⟩
  (fun x hx y hy vx vy h1 h2 W=>by
   obtain ⟨v3,v4,rfl⟩:=cellsV_copy h1;obtain ⟨u3,u4,rfl⟩:=cellsV_copy h2;rw [cmpCopy_eq]
   exact copyClosure x.host x.frm x.upto y.host y.frm y.upto v3 v4 u3 u4 W)
 exact h.mono fun a b ⟨ha,l',hp,hs,hb⟩=>⟨ha,l',hp,hs.imp fun {x y} h=>by rw [cmpCopy_eq,cmpInt_neg] at h; omega,hb⟩
end Go.Proofs.YthikfaephakahaaGreatDoor.P
