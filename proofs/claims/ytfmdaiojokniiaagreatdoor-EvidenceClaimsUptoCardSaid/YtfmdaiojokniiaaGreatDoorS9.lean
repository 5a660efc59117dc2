/- Lemmas of mine. Conditions: as stated. -/
import Derived.Test.YtfmdaiojokniiaaGreatDoorS5
import Derived.Lib.BufferWrite
import Derived.Lib.BufferOwn
import Derived.Lib.BufferSrc
import Derived.Shelf.Bytes.WriteByteAt
set_option linter.unusedVariables false
set_option linter.unusedSimpArgs false
open Array renaming getElem?_eq_getElem->aev,length_toList->aic,getElem?_toList->aeh
open List renaming getElem?_append_right->ae9,mem_map->aer,mem_cons->afu,nodup_append->aeK,getElem?_cons_succ->agf,getElem?_set_self->aei,cons_append->aeH,getElem?_eq_getElem->afo,getD->aem,set_append_right->ahw,set_cons_zero->aie,flatMap_cons->aeb,length_cons->aef,length_set->aeX,getElem?_set_ne->aej,getElem?_append_left->ael,mem_append_left->agc,mem_of_getElem?->afh,mem_append_right->agd,flatMap_append->agJ,mem_flatMap->afd
open Nat renaming le_refl->aed,zero_le->afv,sub_self->afY,le_trans->aen,lt_of_lt_of_le->ad4,lt_trichotomy->agn,min_self->aid,zero_lt_succ->agt,lt_or_ge->adV,zero_add->ad5
open Option renaming getD_some->aeB
section
namespace Go.Proofs.YtfmdaiojokniiaaGreatDoor
open Go Go.Shelf Go.RowKit Go.Proofs
structure cq(b:Nat)(g:Option Nat)(w w':World):Prop where
 os:w'.os=w.os
 tape:w'.tape=w.tape
 output:w'.output=w.output
 size:w.heap.size<=w'.heap.size
 keep:∀ k,k<w.heap.size->k≠b->g≠some k->w'.heap[k]?=w.heap[k]?
theorem cq.refl(b:Nat)(g:Option Nat)(w:World):cq b g w w:=⟨rfl,rfl,rfl,aed _,fun _ _ _ _=>rfl⟩
theorem cq.trans{b:Nat}{g g2:Option Nat}{w w1 w2:World}(h:cq b g w w1)(k:cq b g2 w1 w2)(hg:g2=g\/∃ n,g2=some n/\w.heap.size<=n):cq b g w w2 :=
 ⟨k.os.trans h.os,k.tape.trans h.tape,k.output.trans h.output,aen h.size k.size,fun i hi hb hn=>by
  rw[k.keep i (ad4 hi h.size) hb (by rcases hg with rfl|⟨n,rfl,hle⟩;exact hn;exact fun e=>by cases e;omega)]
  exact h.keep i hi hb hn⟩
theorem cq.set{b:Nat}{g:Option Nat}{w w1:World}(h:cq b g w w1)(i:Nat)(v:Value):cq b g w (w1.setCell ⟨b,i,none⟩ v) :=
 ⟨h.os,h.tape,h.output,by simpa [World.setCell]using h.size,fun k hk hb hn=>by rw[Below.heap_setCell _ _ _ _ hb];exact h.keep k hk hb hn⟩
theorem cq.Yw{b g:Nat}{w w1:World}(h:cq b (some g) w w1)(i:Nat)(v:Value):cq b (some g) w (w1.setCell ⟨g,i,none⟩ v) :=
 ⟨h.os,h.tape,h.output,by simpa [World.setCell]using h.size,fun k hk hb hn=>by rw[Below.heap_setCell _ _ _ _ (fun e=>hn (by rw[e]))];exact h.keep k hk hb hn⟩
theorem cq.row{b g:Nat}{w w1:World}(h:cq b (some g) w w1)(l:Array Value):cq b (some g) w (w1.setRow g l) :=
 ⟨h.os,h.tape,h.output,by simpa using h.size,fun k hk hb hn=>by rw[setRow_other _ _ _ _ (fun e=>hn (by rw[e]))];exact h.keep k hk hb hn⟩
theorem cq.below{b:Nat}{g:Option Nat}{w w1 w2:World}(h:cq b g w w1)(k:Below w1.heap.size w1 w2):cq b g w w2 :=
 ⟨k.os.trans h.os,k.tape.trans h.tape,k.output.trans h.output,aen h.size k.size,fun i hi hb hn=>by rw[k.block i (ad4 hi h.size)];exact h.keep i hi hb hn⟩
theorem cq.alloc{b:Nat}{g:Option Nat}{w w1:World}(h:cq b g w w1)(o:Obj):cq b g w (w1.alloc o) :=
 ⟨h.os,h.tape,h.output,aen h.size (by show w1.heap.size<=(w1.heap.push o).size;rw[Array.size_push];omega),fun i hi hb hn=>by rw[Below.heap_alloc w1 o i (ad4 hi h.size)];exact h.keep i hi hb hn⟩
theorem cq.fresh{b g2:Nat}{g:Option Nat}{w w1:World}(h:cq b g w w1)(hle:w.heap.size<=g2)(l:Array Value):cq b g w (w1.setRow g2 l) :=
 ⟨h.os,h.tape,h.output,by simpa using h.size,fun k hk hb hn=>by rw[setRow_other _ _ _ _ (by omega)];exact h.keep k hk hb hn⟩
theorem cq.wide{b:Nat}{g:Option Nat}{w w1:World}(h:cq b none w w1):cq b g w w1:=⟨h.os,h.tape,h.output,h.size,fun k hk hb _=>h.keep k hk hb (by simp)⟩
def ey(T:TypeId)(R:Nat->Option Value)(e:TypeId)(b q g:Nat)(bs:List Value)(n:Nat)(w:World):Prop:=∃ cap cur,
 LibA.Three w b q T R (.slice (some ⟨g,0,none⟩) (bs.length+n) cap) (.int .i64 0) (.int .i8 0)/\w.heap[g]?=some (.cells cur e (0,0)) /\
 bs.length+n<=cap/\cap<=maxLen/\cur.size=cap/\cur.toList.take bs.length=bs/\g≠b
theorem Yx{T:TypeId}{R:Nat->Option Value}{e:TypeId}{b q N n ea:Nat}{bs:List Value}{w2:World}{v0 v1:Value}{cells:Array Value}(dp:LibA.Three w2 b q T R v0 (.int .i64 0) (.int .i8 0))(hN:w2.heap[N]?=some (.cells cells e (0,0)))(DD:N≠b)
  (dP:cells.size=ea) (iR:cells.toList.take bs.length=bs) (hc:bs.length+n<=ea) (hm:ea<=maxLen) :
  ey T R e b q N bs n (((w2.setCell ⟨b,q,none⟩ v1).setCell ⟨b,q+1,none⟩ (.int .i64 0)).setCell ⟨b,q,none⟩ (.slice (some ⟨N,0,none⟩) (bs.length+n) ea)) :=
 ⟨ea,cells,((dp.set0 v1).set1 (.int .i64 0)).set0 _,by rw[Below.heap_setCell _ _ _ _ DD,Below.heap_setCell _ _ _ _ DD,Below.heap_setCell _ _ _ _ DD];exact hN,hc,hm,dP,iR,DD⟩
section
variable {P:Program} {ρ : Ren}
set_option maxHeartbeats 12800000 in
set_option maxRecDepth 100000 in
theorem Ia(L:LaysM.n252 P ρ)(T:TypeId)(R:Nat->Option Value)(b q g l cap n:Nat)(cur:Array Value)(bs:List Value)(w:World)
  (dp:LibA.Three w b q T R (.slice (some ⟨g,0,none⟩) l cap) (.int .i64 0) (.int .i8 0)) (hl:bs.length=l) (hg:w.heap[g]?=some (.cells cur (ρ.t 5) (0,0))) (CU:l<=cap) (fp:cap<=maxLen) (dP:cur.size=cap)
  (Ib:cur.toList.take l=bs) (lx:g≠b) (h1:∀ v∈bs,v.oneCell'=true) (si:¬ l=0) (hn:1<=n) (qG:cap-l<n) (qp:l+n<=140737488355328) :
  Calls P (ρ.f 252) #[.pointer (some ⟨b,q,none⟩),.int .i64 n] w fun e w'=>e=.returned (.int .i64 l)/\∃ g2,w.heap.size<=g2/\ey T R (ρ.t 5) b q g2 bs n w'/\cq b none w w':=by
 have mixed:=L.mixed;have t5:=L.t5;have a5:=L.a5;have z5:=L.z5;have v5:=L.v5;have t130:=L.t130;have a130:=L.a130;have z130:=L.z130;have v130:=L.v130;have t3:=L.t3;have a3:=L.a3;have z3:=L.z3;have v3:=L.v3;have t4:=L.t4;have a4:=L.a4;have z4:=L.z4;have v4:=L.v4;have t0:=L.t0;have a0:=L.a0;have z0:=L.z0;have v0:=L.v0;have t93:=L.t93;have u93:=run_underlying L.t93;have a93:=L.a93;have z93:=L.z93;have v93:=L.v93;have t131:=L.t131;have a131:=L.a131;have z131:=L.z131;have v131:=L.v131;have t37:=L.t37;have a37:=L.a37;have z37:=L.z37;have v37:=L.v37;have t75:=L.t75;have a75:=L.a75;have z75:=L.z75;have v75:=L.v75;have Yy:∀ args w,(callFunc (ρ.f 181) args).run P w=.ok (.enter (ρ.f 181) args) w:=enters_of L.f181 (by kernel_rfl) rfl;have yh:∀ args w,(callFunc (ρ.f 251) args).run P w=.ok (.enter (ρ.f 251) args) w:=enters_of L.f251 (by kernel_rfl) rfl;have adq:∀ args w,(callFunc (ρ.f 290) args).run P w=.ok (.enter (ρ.f 290) args) w:=enters_of L.f290 (by kernel_rfl) rfl;have AT:LibA.IsBuffer T R (ρ.t 5) 0 b q bs w:=⟨afv _,_,_,dp,⟨by rw[hl,Nat.mul_one],.inr ⟨g,cap,cur,by rw[hl],afv _,hg,by omega,fp,by omega,by rw[hl,Nat.mul_one];exact Ib⟩⟩,by simp[Value.ownBlock];exact lx⟩;have nB:∀ W,(binOp .eql (ρ.t 37) (.slice (some ⟨g,0,none⟩) l cap) (.slice none 0 0)).run P W=.ok (.bool false) W:=fun W=>Lib.run_eql_slice_some_nil W _ _ _ L.t37
 go_enter L.f252,Body.n252_ntmps ρ
 go_wp2_with (go_at_fn (ρ.f 181);refine(Any.Buffer_Len_at { L with } T R 0 b q bs _ AT).mono ?_)
 rintro e W0 ⟨rfl,k,tN⟩;rw[hl];have ez:LibA.Three W0 b q T R (.slice (some ⟨g,0,none⟩) l cap) (.int .i64 0) (.int .i8 0):=by rw[tN];exact dp
 have c0:W0.cell? ⟨b,q,none⟩=some (.slice (some ⟨g,0,none⟩) l cap):=ez.c0;have c1:W0.cell? ⟨b,q+1,none⟩=some (.int .i64 0):=ez.c1;have f0:W0.frozen? ⟨b,q,none⟩=false:=ez.f q;have f1:W0.frozen? ⟨b,q+1,none⟩=false:=ez.f (q+1);have rV:W0.heap[g]?=some (.cells cur (ρ.t 5) (0,0)):=by rw[tN];exact hg
 have AU:=Lib.hid tN;clear tN AT;have Yz:=fp;unfold maxLen at Yz
 go_wp2_with (go_at_fn (ρ.f 251);refine(Any.Buffer_tryGrow_none_at { L with } b q _ l cap n _ c0 CU fp qG).mono ?_;rintro e w' ⟨rfl,rfl⟩)
 have AX:cap<=140737488355328:=by omega
 have qM:∀ v∈cur.toList.take l,v.oneCell'=true:=by rw[Ib];exact h1
 have YA:=ez.lt;have hwn:IntKind.i64.wrap (n:Int)=n:=by rw[IntKind.wrap_i64];omega
 go_region_with_o (
   go_at_fn (ρ.f 290)
   refine(Any.bytes_growSlice_row { L with } g l cap n cur _ ?_ dP CU hn qp AX qM).mono ?_;exact rV;rintro e w2 ⟨ea,cells,rfl,hN,YB,iR,YC,kL,Ot⟩;have iB:LibA.Three w2 b q T R (.slice (some ⟨g,0,none⟩) l cap) (.int .i64 0) (.int .i8 0):=ez.of_heap (Ot.block b YA);have d0:w2.cell? ⟨b,q,none⟩=some (.slice (some ⟨g,0,none⟩) l cap):=iB.c0;have d1:w2.cell? ⟨b,q+1,none⟩=some (.int .i64 0):=iB.c1;have e0:w2.frozen? ⟨b,q,none⟩=false:=iB.f q
   have e1:w2.frozen? ⟨b,q+1,none⟩=false:=iB.f (q+1))
 all_goals (
  go_wp2
  go_ret
  have YD:w'.heap.size=w.heap.size:=by rw[AU.out];rfl
  have b9:cq b none w w'.drew:=by rw[AU.out];exact⟨rfl,rfl,rfl,aed _,fun _ _ _ _=>rfl⟩
  have fL:cq b none w w2:=b9.below Ot;subst hl
  exact⟨rfl,w'.heap.size,by omega,Yx iB hN (by omega) YB (iR.trans Ib) YC kL,((fL.set q _).set (q+1) _).set q _⟩)
def vS(g g2:Nat)(w:World):Prop:=g2=g\/w.heap.size<=g2
theorem tO{T:TypeId}{R:Nat->Option Value}{e:TypeId}{b q g:Nat}{bs:List Value}{w:World}(h:ey T R e b q g bs 0 w):∃ cap cur,
  LibA.Three w b q T R (.slice (some ⟨g,0,none⟩) bs.length cap) (.int .i64 0) (.int .i8 0)/\w.heap[g]?=some (.cells cur e (0,0))/\bs.length<=cap/\cap<=maxLen/\cur.size=cap/\cur.toList.take bs.length=bs/\g≠b:=h
theorem DE{T:TypeId}{R:Nat->Option Value}{e:TypeId}{b q g n:Nat}{bs:List Value}{w:World}(h:ey T R e b q g bs n w):ey T R e b q g bs n (w.setCell ⟨b,q+2,none⟩ (.int .i8 0)):=by
 obtain⟨cap,cur,h1,h2,h3,h4,h5,h6,h7⟩:=h;exact⟨cap,cur,h1.set2 _,by rw[Below.heap_setCell _ _ _ _ h7];exact h2,h3,h4,h5,h6,h7⟩
theorem YE{cur:Array Value}{l:Nat}{bs:List Value}{v:Value}(iR:cur.toList.take l=bs)(hl:bs.length=l)(ah:l<cur.size):(cur.setIfInBounds l v).toList.take (l+1)=bs++[v]:=by
 have mi:l<cur.toList.length:=by rw[aic];exact ah
 rw[Array.toList_setIfInBounds,List.take_add_one,List.take_set_of_le (aed _),aei mi,iR];rfl
theorem YF{cur:Array Value}{l:Nat}{bs cs:List Value}(iR:cur.toList.take l=bs):(cur.toList.take l++cs++cur.toList.drop (l+cs.length)).toArray.toList.take (bs++cs).length=bs++cs:=by
 rw[List.toList_toArray,iR,List.take_left' rfl]
theorem Ic{T:TypeId}{R:Nat->Option Value}{e:TypeId}{b q g:Nat}{bs:List Value}{w:World}{v:Value}(h:ey T R e b q g bs 1 w):ey T R e b q g (bs++[v]) 0 (w.setCell ⟨g,bs.length,none⟩ v):=by
 obtain⟨cap,cur,h1,h2,h3,h4,h5,h6,h7⟩:=h;refine⟨cap,cur.setIfInBounds bs.length v,?_,Lib.heap_setCell_same (i:=bs.length) h2 v,by simpa using h3,h4,by simpa using h5,?_,h7⟩
 ·have:=h1.of_heap (w':=w.setCell ⟨g,bs.length,none⟩ v) (Below.heap_setCell _ _ _ _ (Ne.symm h7))
  simpa using this
 ·have:=YE (v:=v) h6 rfl (by omega)
  simpa using this
theorem DF{T:TypeId}{R:Nat->Option Value}{e:TypeId}{b q g n:Nat}{bs cs:List Value}{w:World}{cur:Array Value}(h:ey T R e b q g bs n w)(hg:w.heap[g]?=some (.cells cur e (0,0)))(hn:cs.length=n) :
  ey T R e b q g (bs++cs) 0 (w.setRow g (cur.toList.take bs.length++cs++cur.toList.drop (bs.length+n)).toArray):=by
 obtain⟨cap,cur',h1,h2,h3,h4,h5,h6,h7⟩:=h;rw[hg]at h2;injection h2 with h2;injection h2 with h2 _ _;subst h2;subst hn;refine⟨cap,_,?_,setRow_heap w g cur _ e (0,0) hg,by simpa using h3,h4,?_,YF h6,h7⟩
 ·have:=h1.of_heap (w':=w.setRow g (cur.toList.take bs.length++cs++cur.toList.drop (bs.length+cs.length)).toArray) (setRow_other _ _ _ _ (Ne.symm h7))
  simpa using this
 ·have hl:cur.toList.length=cur.size:=aic;simp only[List.size_toArray,List.length_append,List.length_take,List.length_drop,hl];omega
set_option maxHeartbeats 6400000 in
set_option maxRecDepth 100000 in
theorem YG(L:LaysM.n179 P ρ)(T:TypeId)(R:Nat->Option Value)(b q g:Nat)(bs:List Value)(c:Int)(w:World)(h:ey T R (ρ.t 5) b q g bs 0 w)(aJ:¬ bs.length=0)(h1:∀ v∈bs,v.oneCell'=true)(qp:bs.length+1<=140737488355328) :
  Calls P (ρ.f 179) #[.pointer (some ⟨b,q,none⟩),.int .u8 c] w fun e w'=>e=.returned .nilIface/\∃ g2,vS g g2 w/\ey T R (ρ.t 5) b q g2 (bs++[.int .u8 c]) 0 w'/\cq b (some g) w w':=by
 have mixed:=L.mixed;have t5:=L.t5;have a5:=L.a5;have z5:=L.z5;have v5:=L.v5;have t130:=L.t130;have a130:=L.a130;have z130:=L.z130;have v130:=L.v130;have t75:=L.t75;have a75:=L.a75;have z75:=L.z75;have v75:=L.v75;have t0:=L.t0;have a0:=L.a0;have z0:=L.z0;have v0:=L.v0;have t93:=L.t93;have u93:=run_underlying L.t93;have a93:=L.a93;have z93:=L.z93;have v93:=L.v93;have t91:=L.t91;have a91:=L.a91;have z91:=L.z91;have v91:=L.v91;have t3:=L.t3;have a3:=L.a3;have z3:=L.z3;have v3:=L.v3;have t131:=L.t131;have a131:=L.a131;have z131:=L.z131;have v131:=L.v131;have t4:=L.t4;have a4:=L.a4;have z4:=L.z4;have v4:=L.v4;have t37:=L.t37;have a37:=L.a37;have z37:=L.z37;have v37:=L.v37;have yh:∀ args w,(callFunc (ρ.f 251) args).run P w=.ok (.enter (ρ.f 251) args) w:=enters_of L.f251 (by kernel_rfl) rfl;have DG:∀ args w,(callFunc (ρ.f 252) args).run P w=.ok (.enter (ρ.f 252) args) w:=enters_of L.f252 (by kernel_rfl) rfl;have h0:=DE h;have b9:cq b (some g) w (w.setCell ⟨b,q+2,none⟩ (.int .i8 0)):=(cq.refl b (some g) w).set _ _;have bR:(w.setCell ⟨b,q+2,none⟩ (.int .i8 0)).heap.size=w.heap.size:=by simp[World.setCell]
 obtain⟨Ie,Ig,ez,rV,vT,vU,vV,vW,Ih⟩:=tO h;have c2:w.cell? ⟨b,q+2,none⟩=some (.int .i8 0):=ez.c2;have f2:w.frozen? ⟨b,q+2,none⟩=false:=ez.f (q+2);clear ez rV vW vV vU vT;obtain⟨cap,cur,dp,hg,nP,fp,dP,iR,lx⟩:=tO h0;clear h0;by_cases hr:1<=cap-bs.length
 ·have hT:=Any.Buffer_tryGrow_room_at { L with } b q (some ⟨g,0,none⟩) bs.length cap 1 _ dp.c0 (dp.f q) nP fp hr
  go_enter L.f179,Body.n179_ntmps ρ
  go_wp2_with (go_at_fn (ρ.f 251);refine hT.mono ?_)
  rintro e W1 ⟨rfl,kM⟩;have hX:ey T R (ρ.t 5) b q g bs 1 W1:=by rw[kM];exact⟨cap,cur,dp.set0 _,by rw[Below.heap_setCell _ _ _ _ lx];exact hg,by omega,fp,dP,iR,lx⟩
  have hK:cq b (some g) w W1:=by rw[kM];exact b9.set _ _
  clear kM hT dp hg;obtain⟨ea,kN,iB,iC,tP,kL,vX,px,-⟩:=id hX;have d0:W1.cell? ⟨b,q,none⟩=some (.slice (some ⟨g,0,none⟩) (bs.length+1) ea):=iB.c0;have ah:bs.length<kN.size:=by omega
  have dg:W1.cell? ⟨g,bs.length,none⟩=some kN[bs.length]:=by rw[Lib.cell_of_heap iC,aev ah]
  have fg:W1.frozen? ⟨g,bs.length,none⟩=false:=Lib.frozen_of_heap iC _;unfold maxLen at fp kL
  go_wp2
  go_ret
  exact⟨rfl,g,.inl rfl,Ic hX,hK.Yw _ _⟩
 ·have hT:=Any.Buffer_tryGrow_none_at { L with } b q (some ⟨g,0,none⟩) bs.length cap 1 _ dp.c0 nP fp (by omega);have hG:=Ia { L with } T R b q g bs.length cap 1 cur bs _ dp rfl hg nP fp dP iR lx h1 aJ (aed _) (by omega) qp
  go_enter L.f179,Body.n179_ntmps ρ
  go_wp2_with (go_at_fn (ρ.f 251);refine hT.mono ?_;rintro e w' ⟨rfl,rfl⟩)
  go_wp2_with (go_at_fn (ρ.f 252);refine hG.mono ?_)
  rintro e W1 ⟨rfl,g2,Ii,hX,kO⟩;have hK:cq b (some g) w W1:=b9.trans kO.wide (.inl rfl);clear hT hG dp hg;obtain⟨ea,kN,iB,iC,tP,kL,vX,px,-⟩:=id hX;have d0:W1.cell? ⟨b,q,none⟩=some (.slice (some ⟨g2,0,none⟩) (bs.length+1) ea):=iB.c0;have ah:bs.length<kN.size:=by omega
  have dg:W1.cell? ⟨g2,bs.length,none⟩=some kN[bs.length]:=by rw[Lib.cell_of_heap iC,aev ah]
  have fg:W1.frozen? ⟨g2,bs.length,none⟩=false:=Lib.frozen_of_heap iC _;unfold maxLen at fp kL
  go_wp2
  go_ret
  refine⟨rfl,g2,.inr (by omega),Ic hX,⟨hK.os,hK.tape,hK.output,by simpa [World.setCell]using hK.size,fun k hk hb hn=>?_⟩⟩;rw[Below.heap_setCell _ _ _ _ (by show k≠g2;omega)];exact hK.keep k hk hb hn
set_option maxHeartbeats 6400000 in
set_option maxRecDepth 100000 in
theorem YH(L:LaysM.n178 P ρ)(T:TypeId)(R:Nat->Option Value)(b q g:Nat)(bs:List Value)(s:ByteArray)(w:World)(h:ey T R (ρ.t 5) b q g bs 0 w)(aJ:¬ bs.length=0)(hs:¬ s.size=0)(h1:∀ v∈bs,v.oneCell'=true)(qp:bs.length+s.size<=140737488355328) :
  Calls P (ρ.f 178) #[.pointer (some ⟨b,q,none⟩),.string s] w fun e w'=>e=.returned (.tuple #[.int .i64 s.size,.nilIface])/\∃ g2,vS g g2 w/\ey T R (ρ.t 5) b q g2 (bs++Lib.byteCells s.data.toList) 0 w'/\cq b (some g) w w':=by
 have mixed:=L.mixed;have t5:=L.t5;have a5:=L.a5;have z5:=L.z5;have v5:=L.v5;have t130:=L.t130;have a130:=L.a130;have z130:=L.z130;have v130:=L.v130;have t75:=L.t75;have a75:=L.a75;have z75:=L.z75;have v75:=L.v75;have t0:=L.t0;have a0:=L.a0;have z0:=L.z0;have v0:=L.v0;have t93:=L.t93;have u93:=run_underlying L.t93;have a93:=L.a93;have z93:=L.z93;have v93:=L.v93;have t91:=L.t91;have a91:=L.a91;have z91:=L.z91;have v91:=L.v91;have t3:=L.t3;have a3:=L.a3;have z3:=L.z3;have v3:=L.v3;have t131:=L.t131;have a131:=L.a131;have z131:=L.z131;have v131:=L.v131;have t4:=L.t4;have a4:=L.a4;have z4:=L.z4;have v4:=L.v4;have t37:=L.t37;have a37:=L.a37;have z37:=L.z37;have v37:=L.v37;have t9:=L.t9;have a9:=L.a9;have z9:=L.z9;have v9:=L.v9;have yh:∀ args w,(callFunc (ρ.f 251) args).run P w=.ok (.enter (ρ.f 251) args) w:=enters_of L.f251 (by kernel_rfl) rfl;have DG:∀ args w,(callFunc (ρ.f 252) args).run P w=.ok (.enter (ρ.f 252) args) w:=enters_of L.f252 (by kernel_rfl) rfl;have h0:=DE h;have b9:cq b (some g) w (w.setCell ⟨b,q+2,none⟩ (.int .i8 0)):=(cq.refl b (some g) w).set _ _;have bR:(w.setCell ⟨b,q+2,none⟩ (.int .i8 0)).heap.size=w.heap.size:=by simp[World.setCell]
 obtain⟨Ie,Ig,ez,rV,vT,vU,vV,vW,Ih⟩:=tO h;have c2:w.cell? ⟨b,q+2,none⟩=some (.int .i8 0):=ez.c2;have f2:w.frozen? ⟨b,q+2,none⟩=false:=ez.f (q+2);clear ez rV vW vV vU vT;obtain⟨cap,cur,dp,hg,nP,fp,dP,iR,lx⟩:=tO h0;clear h0;have vY:(P.info? (ρ.t 5)).map (·.size)=some 1:=by
  obtain⟨i0,hi,-,gG,-⟩:=info_parts L.i5;rw[hi];simp[gG]
 by_cases hr:s.size<=cap-bs.length
 ·have hT:=Any.Buffer_tryGrow_room_at { L with } b q (some ⟨g,0,none⟩) bs.length cap s.size _ dp.c0 (dp.f q) nP fp hr
  go_enter L.f178,Body.n178_ntmps ρ
  go_wp2_with (go_at_fn (ρ.f 251);refine hT.mono ?_)
  rintro e W1 ⟨rfl,kM⟩;have hX:ey T R (ρ.t 5) b q g bs s.size W1:=by rw[kM];exact⟨cap,cur,dp.set0 _,by rw[Below.heap_setCell _ _ _ _ lx];exact hg,by omega,fp,dP,iR,lx⟩
  have hK:cq b (some g) w W1:=by rw[kM];exact b9.set _ _
  have AY:w.grownBy W1 (some b):=by rw[kM];exact Lib.grownBy_setB (Lib.grownBy_setCell w b (q+2) _) q _
  clear kM;clear hT dp hg;obtain⟨ea,kN,iB,iC,tP,kL,vX,px,-⟩:=id hX;have d0:W1.cell? ⟨b,q,none⟩=some (.slice (some ⟨g,0,none⟩) (bs.length+s.size) ea):=iB.c0;have Ij:¬ ea=bs.length:=by omega
  have AZ:=Lib.run_copy_row_string (P:=P) W1 (ρ.t 37) (ρ.t 9) (ρ.t 3) (ρ.t 5) g bs.length s.size (ea-bs.length) s kN (ρ.t 5) L.t37 vY iC (by omega) (by omega);have vZ:=kL;unfold maxLen at vZ;unfold maxLen at fp
  go_wp2
  go_ret2
  refine⟨rfl,g,.inl rfl,?_,hK.row _⟩;have:=DF (cs:=Lib.byteCells s.data.toList) hX iC (by rw[Lib.byteCells_length,<- Lib.size_eq])
  simpa [px]using this
 ·have hT:=Any.Buffer_tryGrow_none_at { L with } b q (some ⟨g,0,none⟩) bs.length cap s.size _ dp.c0 nP fp (by omega);have hG:=Ia { L with } T R b q g bs.length cap s.size cur bs _ dp rfl hg nP fp dP iR lx h1 aJ (by omega) (by omega) qp
  go_enter L.f178,Body.n178_ntmps ρ
  go_wp2_with (go_at_fn (ρ.f 251);refine hT.mono ?_;rintro e w' ⟨rfl,rfl⟩)
  go_wp2_with (go_at_fn (ρ.f 252);refine hG.mono ?_)
  rintro e W1 ⟨rfl,g2,Ii,hX,kO⟩;have hK:cq b (some g) w W1:=b9.trans kO.wide (.inl rfl);have AY:w.grownBy W1 (some b):=Lib.grownBy_trans (Lib.grownBy_setCell w b (q+2) _) ⟨kO.os,kO.tape,kO.output,kO.size,fun k hk hb=>kO.keep k hk (fun e=>hb (by rw[e])) (by simp)⟩;have hle:w.heap.size<=g2:=by omega
  clear hT hG dp hg;obtain⟨ea,kN,iB,iC,tP,kL,vX,px,-⟩:=id hX;have d0:W1.cell? ⟨b,q,none⟩=some (.slice (some ⟨g2,0,none⟩) (bs.length+s.size) ea):=iB.c0;have Ij:¬ ea=bs.length:=by omega
  have AZ:=Lib.run_copy_row_string (P:=P) W1 (ρ.t 37) (ρ.t 9) (ρ.t 3) (ρ.t 5) g2 bs.length s.size (ea-bs.length) s kN (ρ.t 5) L.t37 vY iC (by omega) (by omega);have vZ:=kL;unfold maxLen at vZ;unfold maxLen at fp
  go_wp2
  go_ret2
  refine⟨rfl,g2,.inr hle,?_,hK.fresh hle _⟩;have:=DF (cs:=Lib.byteCells s.data.toList) hX iC (by rw[Lib.byteCells_length,<- Lib.size_eq])
  simpa [px]using this
set_option maxHeartbeats 6400000 in
set_option maxRecDepth 100000 in
theorem YI(L:LaysM.n180 P ρ)(T:TypeId)(R:Nat->Option Value)(b q g:Nat)(bs cs:List Value)(a:Addr)(n c:Nat)(w:World)(h:ey T R (ρ.t 5) b q g bs 0 w)(aJ:¬ bs.length=0)(hs:¬ n=0)(h1:∀ v∈bs,v.oneCell'=true)
  (hn:cs.length=n) (my:a.block≠b) (qJ:∀ j v,cs[j]?=some v->w.cell? (a.add j)=some v) (Ou:∀ v∈cs,v.oneCell'=true) (qp:bs.length+n<=140737488355328) :
  Calls P (ρ.f 180) #[.pointer (some ⟨b,q,none⟩),.slice (some a) n c] w fun e w'=>e=.returned (.tuple #[.int .i64 n,.nilIface])/\∃ g2,vS g g2 w/\ey T R (ρ.t 5) b q g2 (bs++cs) 0 w'/\cq b (some g) w w':=by
 have mixed:=L.mixed;have t5:=L.t5;have a5:=L.a5;have z5:=L.z5;have v5:=L.v5;have t130:=L.t130;have a130:=L.a130;have z130:=L.z130;have v130:=L.v130;have t75:=L.t75;have a75:=L.a75;have z75:=L.z75;have v75:=L.v75;have t0:=L.t0;have a0:=L.a0;have z0:=L.z0;have v0:=L.v0;have t93:=L.t93;have u93:=run_underlying L.t93;have a93:=L.a93;have z93:=L.z93;have v93:=L.v93;have t91:=L.t91;have a91:=L.a91;have z91:=L.z91;have v91:=L.v91;have t3:=L.t3;have a3:=L.a3;have z3:=L.z3;have v3:=L.v3;have t131:=L.t131;have a131:=L.a131;have z131:=L.z131;have v131:=L.v131;have t4:=L.t4;have a4:=L.a4;have z4:=L.z4;have v4:=L.v4;have t37:=L.t37;have a37:=L.a37;have z37:=L.z37;have v37:=L.v37;have yh:∀ args w,(callFunc (ρ.f 251) args).run P w=.ok (.enter (ρ.f 251) args) w:=enters_of L.f251 (by kernel_rfl) rfl;have DG:∀ args w,(callFunc (ρ.f 252) args).run P w=.ok (.enter (ρ.f 252) args) w:=enters_of L.f252 (by kernel_rfl) rfl;have h0:=DE h;have b9:cq b (some g) w (w.setCell ⟨b,q+2,none⟩ (.int .i8 0)):=(cq.refl b (some g) w).set _ _;have bR:(w.setCell ⟨b,q+2,none⟩ (.int .i8 0)).heap.size=w.heap.size:=by simp[World.setCell]
 obtain⟨Ie,Ig,ez,rV,vT,vU,vV,vW,Ih⟩:=tO h;have c2:w.cell? ⟨b,q+2,none⟩=some (.int .i8 0):=ez.c2;have f2:w.frozen? ⟨b,q+2,none⟩=false:=ez.f (q+2);clear ez rV vW vV vU vT;obtain⟨cap,cur,dp,hg,nP,fp,dP,iR,lx⟩:=tO h0;clear h0;have vY:(P.info? (ρ.t 5)).map (·.size)=some 1:=by
  obtain⟨i0,hi,-,gG,-⟩:=info_parts L.i5;rw[hi];simp[gG]
 by_cases hr:n<=cap-bs.length
 ·have hT:=Any.Buffer_tryGrow_room_at { L with } b q (some ⟨g,0,none⟩) bs.length cap n _ dp.c0 (dp.f q) nP fp hr
  go_enter L.f180,Body.n180_ntmps ρ
  go_wp2_with (go_at_fn (ρ.f 251);refine hT.mono ?_)
  rintro e W1 ⟨rfl,kM⟩;have hX:ey T R (ρ.t 5) b q g bs n W1:=by rw[kM];exact⟨cap,cur,dp.set0 _,by rw[Below.heap_setCell _ _ _ _ lx];exact hg,by omega,fp,dP,iR,lx⟩
  have hK:cq b (some g) w W1:=by rw[kM];exact b9.set _ _
  have AY:w.grownBy W1 (some b):=by rw[kM];exact Lib.grownBy_setB (Lib.grownBy_setCell w b (q+2) _) q _
  clear kM;clear hT dp hg;obtain⟨ea,kN,iB,iC,tP,kL,vX,px,-⟩:=id hX;have d0:W1.cell? ⟨b,q,none⟩=some (.slice (some ⟨g,0,none⟩) (bs.length+n) ea):=iB.c0;have Ij:¬ ea=bs.length:=by omega
  have Ik:∀ j v,cs[j]?=some v->W1.cell? (a.add j)=some v:=fun j v hj=>AY.cell (qJ j v hj) (by rw[Lib.block_add];exact fun e=>my (Option.some.inj e));have AZ:=run_copy_row (P:=P) W1 (ρ.t 37) (ρ.t 37) (ρ.t 3) (ρ.t 5) g bs.length n (ea-bs.length) a n c kN (ρ.t 5) cs L.t37 vY iC (by rw[hn];exact(aid n).symm) Ik (by rw[hn];omega) Ou;rw[hn]at AZ;have vZ:=kL;unfold maxLen at vZ;unfold maxLen at fp
  go_wp2
  go_ret2
  refine⟨rfl,g,.inl rfl,?_,hK.row _⟩;have:=DF (cs:=cs) hX iC hn
  simpa [px]using this
 ·have hT:=Any.Buffer_tryGrow_none_at { L with } b q (some ⟨g,0,none⟩) bs.length cap n _ dp.c0 nP fp (by omega);have hG:=Ia { L with } T R b q g bs.length cap n cur bs _ dp rfl hg nP fp dP iR lx h1 aJ (by omega) (by omega) qp
  go_enter L.f180,Body.n180_ntmps ρ
  go_wp2_with (go_at_fn (ρ.f 251);refine hT.mono ?_;rintro e w' ⟨rfl,rfl⟩)
  go_wp2_with (go_at_fn (ρ.f 252);refine hG.mono ?_)
  rintro e W1 ⟨rfl,g2,Ii,hX,kO⟩;have hK:cq b (some g) w W1:=b9.trans kO.wide (.inl rfl);have AY:w.grownBy W1 (some b):=Lib.grownBy_trans (Lib.grownBy_setCell w b (q+2) _) ⟨kO.os,kO.tape,kO.output,kO.size,fun k hk hb=>kO.keep k hk (fun e=>hb (by rw[e])) (by simp)⟩;have hle:w.heap.size<=g2:=by omega
  clear hT hG dp hg;obtain⟨ea,kN,iB,iC,tP,kL,vX,px,-⟩:=id hX;have d0:W1.cell? ⟨b,q,none⟩=some (.slice (some ⟨g2,0,none⟩) (bs.length+n) ea):=iB.c0;have Ij:¬ ea=bs.length:=by omega
  have Ik:∀ j v,cs[j]?=some v->W1.cell? (a.add j)=some v:=fun j v hj=>AY.cell (qJ j v hj) (by rw[Lib.block_add];exact fun e=>my (Option.some.inj e));have AZ:=run_copy_row (P:=P) W1 (ρ.t 37) (ρ.t 37) (ρ.t 3) (ρ.t 5) g2 bs.length n (ea-bs.length) a n c kN (ρ.t 5) cs L.t37 vY iC (by rw[hn];exact(aid n).symm) Ik (by rw[hn];omega) Ou;rw[hn]at AZ;have vZ:=kL;unfold maxLen at vZ;unfold maxLen at fp
  go_wp2
  go_ret2
  refine⟨rfl,g2,.inr hle,?_,hK.fresh hle _⟩;have:=DF (cs:=cs) hX iC hn
  simpa [px]using this
set_option maxHeartbeats 12800000 in
set_option maxRecDepth 100000 in
theorem YJ(L:LaysM.n252 P ρ)(T:TypeId)(R:Nat->Option Value)(b q:Nat)(w:World)(dp:LibA.Three w b q T R (.slice none 0 0) (.int .i64 0) (.int .i8 0)) :
  Calls P (ρ.f 252) #[.pointer (some ⟨b,q,none⟩),.int .i64 1] w fun e w'=>e=.returned (.int .i64 0)/\∃ g2,w.heap.size<=g2/\ey T R (ρ.t 5) b q g2 [] 1 w'/\cq b none w w':=by
 have mixed:=L.mixed;have t5:=L.t5;have a5:=L.a5;have z5:=L.z5;have v5:=L.v5;have t130:=L.t130;have a130:=L.a130;have z130:=L.z130;have v130:=L.v130;have t3:=L.t3;have a3:=L.a3;have z3:=L.z3;have v3:=L.v3;have t4:=L.t4;have a4:=L.a4;have z4:=L.z4;have v4:=L.v4;have t0:=L.t0;have a0:=L.a0;have z0:=L.z0;have v0:=L.v0;have t93:=L.t93;have u93:=run_underlying L.t93;have a93:=L.a93;have z93:=L.z93;have v93:=L.v93;have t131:=L.t131;have a131:=L.a131;have z131:=L.z131;have v131:=L.v131;have t37:=L.t37;have a37:=L.a37;have z37:=L.z37;have v37:=L.v37;have t75:=L.t75;have a75:=L.a75;have z75:=L.z75;have v75:=L.v75;have Yy:∀ args w,(callFunc (ρ.f 181) args).run P w=.ok (.enter (ρ.f 181) args) w:=enters_of L.f181 (by kernel_rfl) rfl;have yh:∀ args w,(callFunc (ρ.f 251) args).run P w=.ok (.enter (ρ.f 251) args) w:=enters_of L.f251 (by kernel_rfl) rfl;obtain⟨i0,hi,Ac,gG,iK⟩:=info_parts L.i5;obtain⟨M,hM⟩:∃ M,M=madeCells (Value.int .u8 0).cells ((64:Int).toNat*i0.size):=⟨_,rfl⟩;have YK:M.size=64:=by rw[hM,size_madeCells,gG];rfl
 have l7:∀ W:World,(Instr.makeSlice (ρ.t 37) (.int .i64 1) (.int .i64 64)).run P W=.ok (.slice (some ⟨W.heap.size,0,none⟩) 1 64) (W.alloc (.cells M (ρ.t 5))):=fun W=>by
  have h:=run_makeSlice (P:=P) W (ρ.t 37) (ρ.t 5) i0 (.int .u8 0) L.t37 hi Ac .i64 .i64 1 64 (by omega) (by omega) (by rw[gG];decide) (by rw[iK];decide) (by decide);rw[<- hM]at h
  simpa using h
 clear hM;have AT:LibA.IsBuffer T R (ρ.t 5) 0 b q [] w:=⟨afv _,_,_,dp,World.ownsRow_nil _ _ _ _,by simp[Value.ownBlock]⟩;have nB:∀ W,(binOp .eql (ρ.t 37) (.slice none 0 0) (.slice none 0 0)).run P W=.ok (.bool true) W:=fun W=>Lib.run_eql_slice_nil_nil W _ _ L.t37
 go_enter L.f252,Body.n252_ntmps ρ
 go_wp2_with (go_at_fn (ρ.f 181);refine(Any.Buffer_Len_at { L with } T R 0 b q [] _ AT).mono ?_)
 rintro e W0 ⟨rfl,k,tN⟩;have ez:LibA.Three W0 b q T R (.slice none 0 0) (.int .i64 0) (.int .i8 0):=by rw[tN];exact dp
 have c0:W0.cell? ⟨b,q,none⟩=some (.slice none 0 0):=ez.c0;have c1:W0.cell? ⟨b,q+1,none⟩=some (.int .i64 0):=ez.c1;have f0:W0.frozen? ⟨b,q,none⟩=false:=ez.f q;have f1:W0.frozen? ⟨b,q+1,none⟩=false:=ez.f (q+1);have Il:=ez.lt;have c0a:∀ o,(W0.alloc o).cell? ⟨b,q,none⟩=some (.slice none 0 0):=fun o=>(World.cell?_of_block (a:=⟨b,q,none⟩) (Below.heap_alloc W0 o b Il)).trans c0;have f0a:∀ o,(W0.alloc o).frozen? ⟨b,q,none⟩=false:=fun o=>(World.frozen?_of_block (a:=⟨b,q,none⟩) (Below.heap_alloc W0 o b Il)).trans f0;have AU:=Lib.hid tN;clear tN AT
 go_wp2_with (go_at_fn (ρ.f 251);refine(Any.Buffer_tryGrow_none_at { L with } b q _ 0 0 1 _ c0 (aed _) (afv _) (by omega)).mono ?_;rintro e w' ⟨rfl,rfl⟩)
 go_ret
 have YD:w'.heap.size=w.heap.size:=by rw[AU.out];rfl
 have b9:cq b none w w':=by rw[AU.out];exact⟨rfl,rfl,rfl,aed _,fun _ _ _ _=>rfl⟩
 have Ov:∀ v,(w'.setCell ⟨b,q,none⟩ v).heap.size=w'.heap.size:=fun v=>by simp[World.setCell]
 refine⟨rfl,w'.heap.size,by omega,⟨64,M,?_,?_,by decide,by decide,YK,rfl,by omega⟩,(b9.set q _).alloc _⟩
 ·exact(ez.set0 _).of_heap (Below.heap_alloc _ _ b (by rw[Ov];exact Il))
 ·have h:=heap_alloc_new (w'.setCell ⟨b,q,none⟩ (.slice (some ⟨w'.heap.size,0,none⟩) 1 64)) (.cells M (ρ.t 5));rw[Ov]at h;exact h
set_option maxHeartbeats 6400000 in
set_option maxRecDepth 100000 in
theorem YL(L:LaysM.n179 P ρ)(T:TypeId)(R:Nat->Option Value)(b q:Nat)(c:Int)(w:World)(ez:LibA.Three w b q T R (.slice none 0 0) (.int .i64 0) (.int .i8 0)) :
  Calls P (ρ.f 179) #[.pointer (some ⟨b,q,none⟩),.int .u8 c] w fun e w'=>e=.returned .nilIface/\∃ g2,w.heap.size<=g2/\ey T R (ρ.t 5) b q g2 [.int .u8 c] 0 w'/\cq b none w w':=by
 have mixed:=L.mixed;have t5:=L.t5;have a5:=L.a5;have z5:=L.z5;have v5:=L.v5;have t130:=L.t130;have a130:=L.a130;have z130:=L.z130;have v130:=L.v130;have t75:=L.t75;have a75:=L.a75;have z75:=L.z75;have v75:=L.v75;have t0:=L.t0;have a0:=L.a0;have z0:=L.z0;have v0:=L.v0;have t93:=L.t93;have u93:=run_underlying L.t93;have a93:=L.a93;have z93:=L.z93;have v93:=L.v93;have t91:=L.t91;have a91:=L.a91;have z91:=L.z91;have v91:=L.v91;have t3:=L.t3;have a3:=L.a3;have z3:=L.z3;have v3:=L.v3;have t131:=L.t131;have a131:=L.a131;have z131:=L.z131;have v131:=L.v131;have t4:=L.t4;have a4:=L.a4;have z4:=L.z4;have v4:=L.v4;have t37:=L.t37;have a37:=L.a37;have z37:=L.z37;have v37:=L.v37;have yh:∀ args w,(callFunc (ρ.f 251) args).run P w=.ok (.enter (ρ.f 251) args) w:=enters_of L.f251 (by kernel_rfl) rfl;have DG:∀ args w,(callFunc (ρ.f 252) args).run P w=.ok (.enter (ρ.f 252) args) w:=enters_of L.f252 (by kernel_rfl) rfl;have c2:w.cell? ⟨b,q+2,none⟩=some (.int .i8 0):=ez.c2;have f2:w.frozen? ⟨b,q+2,none⟩=false:=ez.f (q+2);have dp:=ez.set2 (.int .i8 0);have b9:cq b none w (w.setCell ⟨b,q+2,none⟩ (.int .i8 0)):=(cq.refl b none w).set _ _;have bR:(w.setCell ⟨b,q+2,none⟩ (.int .i8 0)).heap.size=w.heap.size:=by simp[World.setCell]
 have hT:=Any.Buffer_tryGrow_none_at { L with } b q none 0 0 1 _ dp.c0 (aed _) (afv _) (by omega);have hG:=YJ { L with } T R b q _ dp;clear dp ez
 go_enter L.f179,Body.n179_ntmps ρ
 go_wp2_with (go_at_fn (ρ.f 251);refine hT.mono ?_;rintro e w' ⟨rfl,rfl⟩)
 go_wp2_with (go_at_fn (ρ.f 252);refine hG.mono ?_)
 rintro e W1 ⟨rfl,g2,Ii,hX,kO⟩;have hK:cq b none w W1:=b9.trans kO (.inl rfl);clear hT hG;obtain⟨ea,kN,iB,iC,tP,kL,vX,px,-⟩:=id hX;have adu:1<=ea:=tP;have d0:W1.cell? ⟨b,q,none⟩=some (.slice (some ⟨g2,0,none⟩) 1 ea):=iB.c0;have ah:0<kN.size:=by omega
 have dg:W1.cell? ⟨g2,0,none⟩=some kN[0]:=by rw[Lib.cell_of_heap iC,aev ah]
 have fg:W1.frozen? ⟨g2,0,none⟩=false:=Lib.frozen_of_heap iC _;unfold maxLen at kL
 go_wp2
 go_ret
 refine⟨rfl,g2,by omega,Ic hX,⟨hK.os,hK.tape,hK.output,by simpa [World.setCell]using hK.size,fun k hk hb hn=>?_⟩⟩;rw[Below.heap_setCell _ _ _ _ (by show k≠g2;omega)];exact hK.keep k hk hb hn
set_option maxHeartbeats 6400000 in
set_option maxRecDepth 100000 in
theorem YM(L:LaysM.n178 P ρ)(T:TypeId)(R:Nat->Option Value)(b q g:Nat)(bs:List Value)(s:ByteArray)(w:World)(h:ey T R (ρ.t 5) b q g bs 0 w)(hs:s.size=0) :
  Calls P (ρ.f 178) #[.pointer (some ⟨b,q,none⟩),.string s] w fun e w'=>e=.returned (.tuple #[.int .i64 0,.nilIface])/\ey T R (ρ.t 5) b q g bs 0 w'/\cq b (some g) w w':=by
 have mixed:=L.mixed;have t5:=L.t5;have a5:=L.a5;have z5:=L.z5;have v5:=L.v5;have t130:=L.t130;have a130:=L.a130;have z130:=L.z130;have v130:=L.v130;have t75:=L.t75;have a75:=L.a75;have z75:=L.z75;have v75:=L.v75;have t0:=L.t0;have a0:=L.a0;have z0:=L.z0;have v0:=L.v0;have t93:=L.t93;have u93:=run_underlying L.t93;have a93:=L.a93;have z93:=L.z93;have v93:=L.v93;have t91:=L.t91;have a91:=L.a91;have z91:=L.z91;have v91:=L.v91;have t3:=L.t3;have a3:=L.a3;have z3:=L.z3;have v3:=L.v3;have t131:=L.t131;have a131:=L.a131;have z131:=L.z131;have v131:=L.v131;have t4:=L.t4;have a4:=L.a4;have z4:=L.z4;have v4:=L.v4;have t37:=L.t37;have a37:=L.a37;have z37:=L.z37;have v37:=L.v37;have t9:=L.t9;have a9:=L.a9;have z9:=L.z9;have v9:=L.v9;have yh:∀ args w,(callFunc (ρ.f 251) args).run P w=.ok (.enter (ρ.f 251) args) w:=enters_of L.f251 (by kernel_rfl) rfl;have DG:∀ args w,(callFunc (ρ.f 252) args).run P w=.ok (.enter (ρ.f 252) args) w:=enters_of L.f252 (by kernel_rfl) rfl;have h0:=DE h;have b9:cq b (some g) w (w.setCell ⟨b,q+2,none⟩ (.int .i8 0)):=(cq.refl b (some g) w).set _ _;obtain⟨Ie,Ig,ez,rV,vT,vU,vV,vW,Ih⟩:=tO h;have c2:w.cell? ⟨b,q+2,none⟩=some (.int .i8 0):=ez.c2;have f2:w.frozen? ⟨b,q+2,none⟩=false:=ez.f (q+2);clear ez rV vW vV vU vT;obtain⟨cap,cur,dp,hg,nP,fp,dP,iR,lx⟩:=tO h0;clear h0;have vY:(P.info? (ρ.t 5)).map (·.size)=some 1:=by
  obtain⟨i0,hi,-,gG,-⟩:=info_parts L.i5;rw[hi];simp[gG]
 have hce:∀ d vh Ab W,(Builtin.copy_ #[(ρ.t 37),(ρ.t 9)] (ρ.t 3) #[.slice d vh Ab,.string s]).run P W=.ok (goInt 0) W:=fun d vh Ab W=>Lib.run_copy_empty_string W (ρ.t 37) (ρ.t 9) (ρ.t 3) (ρ.t 5) d vh Ab s L.t37 (by rw[vY];rfl) hs;have hT:=Any.Buffer_tryGrow_room_at { L with } b q (some ⟨g,0,none⟩) bs.length cap 0 _ dp.c0 (dp.f q) nP fp (afv _)
 go_enter L.f178,Body.n178_ntmps ρ
 go_wp2_with (go_at_fn (ρ.f 251);refine hT.mono ?_)
 rintro e W1 ⟨rfl,kM⟩;have hX:ey T R (ρ.t 5) b q g bs 0 W1:=by rw[kM];exact⟨cap,cur,dp.set0 _,by rw[Below.heap_setCell _ _ _ _ lx];exact hg,by omega,fp,dP,iR,lx⟩
 have hK:cq b (some g) w W1:=by rw[kM];exact b9.set _ _
 clear kM hT dp hg;obtain⟨ea,kN,iB,iC,tP,kL,vX,px,-⟩:=id hX;have d0:W1.cell? ⟨b,q,none⟩=some (.slice (some ⟨g,0,none⟩) bs.length ea):=iB.c0;unfold maxLen at fp kL
 go_wp2
 all_goals
  go_ret2
  first|exact⟨rfl,hX,hK⟩|exact⟨by simp[hs],hX,hK⟩
end
end Go.Proofs.YtfmdaiojokniiaaGreatDoor
end
section
namespace Go.aA
open Go Go.RowKit
structure A5(E:Env)(o:Oper)(c0 c:Cx)(a:Act)(ts:Nat × Nat)(l':List DV)(rest loops:List bo)(c':Cx)(blk cap:Nat):Prop where
 Zp:Em E.P o a c.w (.slice (some ⟨blk,0,none⟩) l'.length cap) c'.w
 heap:c'.heap=c.heap++[.gone]
 ok:aM E.G c'
 vr:∀ x v,VR c x v->VR c' x v
 rel:dc c0 c'
 rows:cT c0.w.heap.size c' (.row ⟨blk,cap,ts,l'⟩::rest) loops
theorem OY{E:Env}{o:Oper}{c0 c:Cx}{a:Act}{sm:List AV}{ts:Nat × Nat}{l':List DV}{rest loops:List bo}(h1:aM E.G c)(hr:dc c0 c)(br:cT c0.w.heap.size c rest loops)(h4:VS c sm a.tmps){h:List af}(h2:c.heap=h)
  (hX:bz E o.op sm h (.own h.length 1) (h++[.arr 1 ts l'])) (aJ:l'≠[]) (hn:c0.heap.length<=h.length):∃ c' blk cap,A5 E o c0 c a ts l' rest loops c' blk cap:=by
 obtain⟨c1,v,k1,k2,k3,k4,k5⟩:=hX o c a rfl h2 h1 h4;subst h2;have hb:c1.heap[c.heap.length]?=some (.arr 1 ts l'):=by rw[k2];simp
 rcases kW hb k4 with⟨blk,cap,r1,rfl⟩|⟨rfl,-,-⟩
 case inr=>exact absurd rfl aJ
 obtain⟨q0,q1,q2⟩:=k3.box _ _ hb;rcases q2 with⟨q2,-⟩|⟨iX,gZ,vs,q2,q3,q4,q5,q6,q7⟩
 ·rw[r1]at q2;cases q2
 rw[r1]at q2;cases q2;have vf:=hr.step k5;have wb:=br.step h1 k5;have dF:=Cy vf r1 hn;refine⟨c1.cQ c.heap.length blk,blk,cap,k1,?_,k3.cQ r1,fun x v hv=>rf r1 (k5.vr hv),vf.cQ r1 hn,⟨⟨fun r o8=>?_,?_⟩,fun g hg=>(afu.1 hg).elim (fun e=>by subst e;trivial) (br.flat g)⟩⟩
 ·show c1.heap.set c.heap.length .gone=_;rw[k2,ahw _ _ (aed _),afY,aie]
 ·rcases afu.1 o8 with rfl|o8
  ·show mn c0.w.heap.size (c1.cQ c.heap.length blk) ⟨blk,cap,ts,l'⟩
   exact⟨Or.inr rfl,dF,q0,q1,vs,q3,q4,q5,q6,fun i j e x he hx=>by
    obtain⟨v,k1,k2,k3⟩:=q7 i j e x he hx
    exact⟨v,k1,k2,vb r1 k3⟩⟩
  ·exact(wb.all.cQ r1).each r o8
 ·rw[aeH,aeb];refine aeK.2 ⟨by simp[bo.cm],wb.all.nodup,fun x hx y hy e=>?_⟩;simp[bo.cm]at hx;subst hx;subst e;exact Cz wb.all k3 r1 hy
theorem Zq{E:Env}{o:Oper}{c0 c:Cx}{a:Act}{sm:List AV}{bA:Row}{l':List DV}{rest loops:List bo}(h1:aM E.G c)(hr:dc c0 c)(br:cT c0.w.heap.size c (.row bA::rest) loops)(h4:VS c sm a.tmps){h:List af}(h2:c.heap=h){d:Nat}
  (hd:sm[d]?=some (.d (.raw (.slice (some ⟨bA.blk,0,none⟩) bA.l.length bA.cap)))) (hX:bz E o.op (sm.set d (.own h.length 0)) (h++[.arr 0 bA.ts bA.l]) (.own h.length 1) (h++[.arr 1 bA.ts l'])) (aJ:l'≠[]) (hn:c0.heap.length<=h.length):∃ c' blk cap,A5 E o c0 c a bA.ts l' rest loops c' blk cap:=by
 subst h2;obtain⟨r1,r2,r3⟩:=cT.vc (g1:=[]) br;have r2:mn c0.w.heap.size c bA:=r2;have z6:bA.blk ∉ (rest++loops).flatMap bo.cm:=r3 _ (by simp[bo.cm]);have dG:(c.cL (.arr 0 bA.ts bA.l) bA.blk bA.cap).heap[c.heap.length]?=some (.arr 0 bA.ts bA.l):=by simp[Cx.cL]
 have bH:(c.cL (.arr 0 bA.ts bA.l) bA.blk bA.cap).own c.heap.length=some (bA.blk,bA.cap):=by simp[Cx.cL]
 have aP:aM E.G (c.cL (.arr 0 bA.ts bA.l) bA.blk bA.cap):=h1.cL r2.aE (by
  obtain⟨q1,q2,q3,q4,vs,q5,q6,q7,q8,q9⟩:=r2;refine⟨q3,q4,.inr ⟨bA.blk,bA.cap,vs,bH,q5,q6,q7,q8,fun i j e x he hx=>?_⟩⟩;obtain⟨v,k1,k2,k3⟩:=q9 i j e x he hx
  exact⟨v,k1,k2,Cw h1 q1 k3⟩)
 have eT:VS (c.cL (.arr 0 bA.ts bA.l) bA.blk bA.cap) sm a.tmps:=⟨h4.1,fun i x v hx hv=>va h1 r2.aE (h4.2 i x v hx hv)⟩;have Zr:VS (c.cL (.arr 0 bA.ts bA.l) bA.blk bA.cap) (sm.set d (.own c.heap.length 0)) a.tmps:=CA eT fun v hv=>by
  have eK:=h4.2 d _ v hd hv;cases eK with
  |d _ _ hq =>
   cases hq;exact .own _ 0 bA.ts bA.l bA.blk bA.cap dG bH
 obtain⟨c1,v,k1,k2,k3,k4,k5⟩:=hX o _ a rfl rfl aP Zr;have hb:c1.heap[c.heap.length]?=some (.arr 1 bA.ts l'):=by rw[k2];simp
 rcases kW hb k4 with⟨blk,cap,r8,rfl⟩|⟨rfl,-,-⟩
 case inr=>exact absurd rfl aJ
 obtain⟨q0,q1,q2⟩:=k3.box _ _ hb;rcases q2 with⟨q2,-⟩|⟨iX,gZ,vs,q2,q3,q4,q5,q6,q7⟩
 ·rw[r8]at q2;cases q2
 rw[r8]at q2;cases q2;have vu:dc c0 (c.cL (.arr 0 bA.ts bA.l) bA.blk bA.cap):=hr.cL r2.new;have Zs:cT c0.w.heap.size (c.cL (.arr 0 bA.ts bA.l) bA.blk bA.cap) rest loops:=⟨r1.all.cL h1 r2.aE z6,r1.flat⟩;have vf:=vu.step k5;have wb:=Zs.step aP k5;have dF:=Cy vf r8 hn;refine⟨c1.cQ c.heap.length blk,blk,cap,k1,?_,k3.cQ r8,fun x v hv=>rf r8 (k5.vr (va h1 r2.aE hv)),vf.cQ r8 hn,⟨⟨fun r o8=>?_,?_⟩,fun g hg=>(afu.1 hg).elim (fun e=>by subst e;trivial) (fun hg=>br.flat g (List.mem_cons_of_mem _ hg))⟩⟩
 ·show c1.heap.set c.heap.length .gone=_;rw[k2,ahw _ _ (aed _),afY,aie]
 ·rcases afu.1 o8 with rfl|o8
  ·show mn c0.w.heap.size (c1.cQ c.heap.length blk) ⟨blk,cap,bA.ts,l'⟩
   exact⟨Or.inr rfl,dF,q0,q1,vs,q3,q4,q5,q6,fun i j e x he hx=>by
    obtain⟨v,k1,k2,k3⟩:=q7 i j e x he hx
    exact⟨v,k1,k2,vb r8 k3⟩⟩
  ·exact(wb.all.cQ r8).each r o8
 ·rw[aeH,aeb];refine aeK.2 ⟨by simp[bo.cm],wb.all.nodup,fun x hx y hy e=>?_⟩;simp[bo.cm]at hx;subst hx;subst e;exact Cz wb.all k3 r8 hy
section
variable {E:Env} {ops:Array Oper} {aj:FuncId} {R:cF} {s:List AV} {h:List af} {lits:List Nat}
theorem AW.Zt{id:Nat}{k:List aT}(hm:E.P.follows .mixedOrders=true)
  (H:∀ (c0 c:Cx) (t:Array Value) (oK:List (Array Value)) (Q:Exit->Act->World->Prop),c0.heap.length=R.n ->
   (∀ (a:Act) (c':Cx) (s':List AV) (h':List af) (tR:List bo),AW E R.fx.f0 ⟨⟨aj,R.fx.cA,R.fx.aN⟩,k,s'⟩ R.fx.cls h' ⟨R.n,R.Q,tR,R.fx⟩->aM E.G c'->c'.heap=h'->a.defers=[]->VS c' s' a.tmps->dc c0 c'->cT c0.w.heap.size c' tR R.fx.loops->CR c' R.fx.cls oK->Q .normal a c'.w) ->
   aM E.G c->c.heap=h->VS c s t->dc c0 c->cT c0.w.heap.size c R.rows R.fx.loops->CR c R.fx.cls oK->wpAny E.P .any ops Q ops.size (Array.replicate ops.size false) ⟨t,[]⟩ c.w) :
  AW E R.fx.f0 ⟨⟨aj,R.fx.cA,R.fx.aN⟩,.code (.region id ops true)::k,s⟩ R.fx.cls h R:=by
 unfold AW;intro c0 c t ts h0 h1 h2 h3 hr br h4 h5 cs;have hx:Proofs.YtfmdaiojokniiaaGreatDoor.Ext c.w { c.w with drawn:=c.w.drawn+1 }:=⟨rfl,rfl,rfl,aed _,fun _ _=>rfl⟩;obtain⟨g1,g2⟩:=h3.grow hx
 let Q:Exit->Act->World->Prop:=fun e a w=>(e=.normal/\a.defers=[])/\∃ (c':Cx) (s':List AV) (h':List af) (tR:List bo),AW E R.fx.f0 ⟨⟨aj,R.fx.cA,R.fx.aN⟩,k,s'⟩ R.fx.cls h' ⟨R.n,R.Q,tR,R.fx⟩/\aM E.G c'/\c'.heap=h'/\VS c' s' a.tmps/\dc c0 c'/\cT c0.w.heap.size c' tR R.fx.loops/\CR c' R.fx.cls ts/\w=c'.w
 have F3:(Code.region id ops true).wpIn (uU R.fx.cA) 0 E.P (fun e a w=>a.defers=marks R.fx.aN/\Q e ⟨a.tmps,[]⟩ w) ⟨t,marks R.fx.aN⟩ c.w:=by
  refine wpIn_region_draw fun tt=>?_;simp only[Region.schedule,hm,Bool.true_or,if_true];refine zN R.fx.cA (marks R.fx.aN) (fun e a w he=>he.1) _ t _ (wpAny_sound ops.size tt _ _ _ ?_);exact H c0 (c.eB { c.w with drawn:=c.w.drawn+1 }) t ts Q h0 (fun a c' s' h' tR hK r1 r2 r3 r4 r5 r6 r7=>⟨⟨rfl,r3⟩,c',s',h',tR,hK,r1,r2,r4,r5,r6,r7,rfl⟩) g1 h2 (g2.vs h4) (hr.step g2) (br.step h3 g2) (g2.cr h5)
 obtain⟨e,a',w',⟨hd,⟨⟨rfl,-⟩,c',s',h',tR,hA,r1,r2,r4,r5,r6,r7,rfl⟩⟩,F4⟩:=F3 (bf ⟨aj,R.fx.cA,R.fx.aN⟩) (k.map aT.bK) (eV R.fx.cls ts++cs) rfl trivial (fun d hd=>by cases hd);unfold AW at hA;obtain⟨c2,fr,r,v,q1,q2,q3,uv,q4,q5,q6⟩:=hA c0 c' a'.tmps ts h0 (ek h1) r2 r1 r5 r6 r4 r7 cs;refine⟨c2,fr,r,v,q1,q2,q3,uv,?_,q5,q6⟩;have zk:a'=⟨a'.tmps,marks R.fx.aN⟩:=by cases a';simp only at hd;subst hd;rfl
 have:Steps E.P (lone ((bf ⟨aj,R.fx.cA,R.fx.aN⟩).atR ⟨t,marks R.fx.aN⟩ (.code (.region id ops true)::k.map aT.bK)) (eV R.fx.cls ts++cs) c.w) (lone ((bf ⟨aj,R.fx.cA,R.fx.aN⟩).atR a' (k.map aT.bK)) (eV R.fx.cls ts++cs) c'.w):=StepsIn.steps F4;rw[zk]at this;exact this.trans q4
end
def Iv(E:Env)(ops:Array Oper)(h:List af)(K:List AV->Prop):List Oper->List AV->Prop
 |[],s=>K s
 |o::l,s=>∃ v,ep E ops o s h v h/\ep E ops o s (h++[.gone]) v (h++[.gone])/\Iv E ops h K l (b8 s o.dst v)
@[irreducible] def bT (E : Env) (ops : Array Oper) (h : List af) (K : List AV -> Prop) (l : List Oper) (s : List AV) : Prop := Iv E ops h K l s
section
variable {E:Env} {ops:Array Oper} {h:List af}
theorem bT.OZ{K:List AV->Prop}:∀ {l:List Oper} {s:List AV},Iv E ops h K l s ->
  ∃ pl:List (Oper × AV),pl.map (·.1)=l/\K (cur pl (fun k=>decide (k<pl.length)) 0 s)/\∀ k o v,pl[k]?=some (o,v)->ep E ops o (cur pl (fun i=>decide (i<k)) 0 s) h v h/\ep E ops o (cur pl (fun i=>decide (i<k)) 0 s) (h++[.gone]) v (h++[.gone])
 |[],s,H=>⟨[],rfl,H,fun k o v hk=>by simp at hk⟩
 |o::l,s,⟨v,a,b,H⟩=>by
  obtain⟨pl,p1,p2,p3⟩:=bT.OZ H;have shift:∀ (pl:List (Oper × AV)) (n:Nat) (s:List AV),cur pl (fun k=>decide (k<n+1)) (0+1) s=cur pl (fun k=>decide (k<n)) 0 s:=fun pl n s=>by
   rw[Ck 1]
   congr 1
   funext k;simp
  refine⟨(o,v)::pl,by simp[p1],?_,fun k o' v' hk=>?_⟩
  ·rw[cur];simp only[aef,agt,decide_true,if_true];rw[shift];exact p2
  ·cases k with
   |zero =>
    simp at hk;obtain⟨rfl,rfl⟩:=hk;rw[qX _ _ _ _ (fun k _=>decide_eq_false (by omega))];exact⟨a,b⟩
   |succ k =>
    have:=p3 k o' v' (by simpa using hk);rw[cur];simp only[agt,decide_true,if_true];rw[shift];exact this
theorem bT.lay{K:List AV->Prop}{l:List Oper}{s:List AV}(H:bT E ops h K l s) :
  ∃ pl:List (Oper × AV),pl.map (·.1)=l/\K (cur pl (fun k=>decide (k<pl.length)) 0 s)/\∀ k o v,pl[k]?=some (o,v)->ep E ops o (cur pl (fun i=>decide (i<k)) 0 s) h v h/\ep E ops o (cur pl (fun i=>decide (i<k)) 0 s) (h++[.gone]) v (h++[.gone]):=by
 unfold bT at H;exact bT.OZ H
theorem bT.nil{K:List AV->Prop}{s:List AV}(H:K s):bT E ops h K [] s:=by unfold bT;exact H
theorem Zu{c:Cx}{s:List AV}{t:Array Value}(h:VS c s t){d:Nat}{x:AV}{v:Value}(hv:t[d]?=some v)(hx:VR c x v):VS c (s.set d x) t:=by
 refine⟨by rw[aeX];exact h.1,fun i y u hy hu=>?_⟩;by_cases e:d=i
 ·subst e;rw[hv]at hu;cases hu;rw[aei (by have:=aX hy;simpa using this)]at hy;cases hy;exact hx
 ·rw[aej e]at hy;exact h.2 i y u hy hu
theorem Zv{a:Act}{o:Oper}{d:Nat}(hd:o.dst≠some d)(u:Value):(a.put o.dst u).tmps[d]?=a.tmps[d]? := by
 cases hq:o.dst with
 |none=>rfl
 |some e =>
  have:e≠d:=fun h=>hd (by rw[hq,h]);simp[Act.put,Array.getElem?_setIfInBounds_ne this]
theorem Zw(hc:Ch ops){s0:List AV}{P:List (Oper × AV)}{m d:Nat}{ox ol:Oper}(kc:(P.map (·.1))=ops.toList)(hN:0<ops.size)(O0:m<ops.size-1)(Zx:P[m]?=some (ox,.any))(BI:∃ v,P[ops.size-1]?=some (ol,v))
  (A6:ox.guard=none) (A7:ox.dst=some d) (gz:d<s0.length) (bI:∀ k o v,k≠m->P[k]?=some (o,v)->o.dst≠some d) (we:∀ i,i<ops.size-1->jL ops i (ops.size-1))
  (hx:∀ k o v,k≠m->k<ops.size-1->P[k]?=some (o,v)->ep E ops o (cur P (fun i=>decide (i<k)) 0 s0) h v h/\ep E ops o (cur P (fun i=>decide (i<k)) 0 s0) (h++[.gone]) v (h++[.gone]))
  {c0:Cx} {oK:List (Array Value)} {cls:List ca} {Iw rest loops:List bo} {ts:Nat × Nat} {l':List DV}
  (hX:∀ (c:Cx) (a:Act),aM E.G c->c.heap=h->dc c0 c->cT c0.w.heap.size c Iw loops->VS c (dh (dK ops ox) 0 (cur P (fun i=>decide (i<m)) 0 s0)) a.tmps->∃ c' blk cap,A5 E ox c0 c a ts l' rest loops c' blk cap)
  {Q:Exit->Act->World->Prop}
  (hQ:∀ (blk cap:Nat) (a:Act) (c:Cx),aM E.G c->c.heap=h++[.gone]->a.defers=[]->VS c ((cur P (fun i=>decide (i<ops.size-1)) 0 s0).set d (.d (.raw (.slice (some ⟨blk,0,none⟩) l'.length cap)))) a.tmps->dc c0 c->cT c0.w.heap.size c (.row ⟨blk,cap,ts,l'⟩::rest) loops->CR c cls oK ->
   ∀ (K:Act->World->Prop),(∀ (a':Act) (w':World),Q .normal a' w'->K a' w')->wpOp E.P ops Q (ops.size-1) K a c.w) :
  (∀ (blk cap f:Nat) (listed:Array Bool) (a:Act) (c:Cx),aM E.G c->c.heap=h++[.gone]->a.defers=[]->VS c (cur P (bU listed) 0 s0) a.tmps->a.tmps[d]?=some (.slice (some ⟨blk,0,none⟩) l'.length cap)->dc c0 c->cT c0.w.heap.size c (.row ⟨blk,cap,ts,l'⟩::rest) loops->CR c cls oK->DC ops listed ->
   bU listed m=true->bU listed (ops.size-1)=false->(∀ i,ops.size<=i->bU listed i=false)->jM (bU listed) ops.size<=f->wpAny E.P .any ops Q f listed a c.w) /\
  (∀ (f:Nat) (listed:Array Bool) (a:Act) (c:Cx),aM E.G c->c.heap=h->a.defers=[]->VS c (cur P (bU listed) 0 s0) a.tmps->dc c0 c->cT c0.w.heap.size c Iw loops->CR c cls oK->DC ops listed ->
   bU listed m=false->(∀ i,ops.size<=i->bU listed i=false)->jM (bU listed) ops.size<=f->wpAny E.P .any ops Q f listed a c.w):=by
 obtain⟨hlen,dG⟩:=La kc;have zR:∀ k,k<ops.size->∃ o v,P[k]?=some (o,v):=fun k hk=>⟨(P[k]'(by omega)).1,(P[k]'(by omega)).2,by rw[afo]⟩;have O1:∀ (f:Nat) (listed:Array Bool) (i:Nat),DC ops listed->i∈Region.ready .any ops listed->(∀ i,ops.size<=i->bU listed i=false)->jM (bU listed) ops.size<=f+1 ->
   (∀ q,bU (listed.setIfInBounds i true) q=(bU listed q||decide (q=i)))/\jM (bU (listed.setIfInBounds i true)) ops.size<=f/\(∀ q,ops.size<=q->bU (listed.setIfInBounds i true) q=false):=fun f listed i hd hi ho nz=>by
  obtain⟨lS,fU⟩:=uT hd hi;have dR:=fun q=>FV (i:=q) (show i<listed.size by rw[hd.1];exact fU);refine⟨dR,?_,fun q hq=>by rw[dR,ho q hq];simp;omega⟩;have:=(FY (L:=bU listed) (L':=bU (listed.setIfInBounds i true)) (j:=i) (fun q hq=>by rw[dR];simp[hq]) lS (by rw[dR];simp) ops.size).1 fU;omega
 have B:∀ (blk cap f:Nat) (listed:Array Bool) (a:Act) (c:Cx),aM E.G c->c.heap=h++[.gone]->a.defers=[]->VS c (cur P (bU listed) 0 s0) a.tmps->a.tmps[d]?=some (.slice (some ⟨blk,0,none⟩) l'.length cap)->dc c0 c->cT c0.w.heap.size c (.row ⟨blk,cap,ts,l'⟩::rest) loops->CR c cls oK->DC ops listed ->
   bU listed m=true->bU listed (ops.size-1)=false->(∀ i,ops.size<=i->bU listed i=false)->jM (bU listed) ops.size<=f->wpAny E.P .any ops Q f listed a c.w:=by
  intro blk cap f
  induction f with
  |zero =>
   intro listed a c h1 h2 h3 h4 Ix hr br h5 hd qc mi ho nz;have:=F2 nz (show ops.size-1<ops.size by omega);rw[mi]at this;cases this
  |succ f ih =>
   intro listed a c h1 h2 h3 h4 Ix hr br h5 hd qc mi ho nz;refine⟨fun qR=>?_,fun i hi=>?_⟩
   ·obtain⟨k,-,hk⟩:=FW hc hd (show ops.size-1<ops.size by omega) mi;rw[qR]at hk;cases hk
   obtain⟨lS,fU⟩:=uT hd hi;obtain⟨dR,xE,cW⟩:=O1 f listed i hd hi ho nz;have xJ:i≠m:=fun e=>by rw[e,qc]at lS;cases lS
   by_cases ga:i=ops.size-1
   ·subst ga;have aL:∀ q,q<ops.size-1->bU listed q=true:=fun q hq=>hd.ready hi (we q hq);have e:cur P (bU listed) 0 s0=cur P (fun i=>decide (i<ops.size-1)) 0 s0:=by
     congr 1
     funext q;rcases agn q (ops.size-1)with hq|rfl|hq
     ·rw[aL q hq];simp[hq]
     ·rw[mi];simp
     ·rw[ho q (by omega)];simp;omega
    rw[e]at h4;refine hQ blk cap a c h1 h2 h3 (Zu h4 Ix (.d _ _ (.raw _ rfl))) hr br h5 _ fun a' w' hq=>?_;have Zy:∀ q,q<ops.size->bU (listed.setIfInBounds (ops.size-1) true) q=true:=fun q hq=>by
     rw[dR];rcases adV q (ops.size-1)with h|h
     ·simp[aL q h]
     ·simp;right;omega
    have qR:Region.ready .any ops (listed.setIfInBounds (ops.size-1) true)=[]:=by
     apply List.eq_nil_iff_forall_not_mem.2;intro q hq;obtain⟨k1,k2⟩:=uT (hd.set hi) hq;rw[Zy q k2]at k1;cases k1
    cases f with
    |zero=>exact⟨qR,hq⟩
    |succ f=>exact⟨fun _=>hq,fun q lV=>by rw[qR]at lV;cases lV⟩
   ·obtain⟨o,v,jN⟩:=zR i fU;have mv:=dG i o v jN;obtain⟨xC,xD⟩:=F0 hc.pair dG hd hi jN h4;refine(hx i o v xJ (by omega) jN).2 c a h1 h2 h3 xD i mv _ _ (fun c' u k1 k2 k3 k4=>?_);exact ih _ _ c' k1 k2 (by rw[o6];exact h3) (xC c' u (fun _ _=>k3.vr) k4) (by rw[Zv (bI i o v xJ jN)];exact Ix) (hr.step k3) (br.step h1 k3) (k3.cr h5) (hd.set hi) (by rw[dR,qc];rfl) (by rw[dR,mi];simp;omega) cW xE
 refine⟨B,?_⟩;intro f
 induction f with
 |zero =>
  intro listed a c h1 h2 h3 h4 hr br h5 hd qc ho nz;have:=F2 nz (show m<ops.size by omega);rw[qc]at this;cases this
 |succ f ih =>
  intro listed a c h1 h2 h3 h4 hr br h5 hd qc ho nz;refine⟨fun qR=>?_,fun i hi=>?_⟩
  ·obtain⟨k,-,hk⟩:=FW hc hd (show m<ops.size by omega) qc;rw[qR]at hk;cases hk
  obtain⟨lS,fU⟩:=uT hd hi;obtain⟨dR,xE,cW⟩:=O1 f listed i hd hi ho nz;have ga:i≠ops.size-1:=fun e=>by
   subst e;have:=hd.ready hi (we m O0);rw[qc]at this;cases this
  obtain⟨o,v,jN⟩:=zR i fU;have mv:=dG i o v jN;obtain⟨xC,xD⟩:=F0 hc.pair dG hd hi jN h4;by_cases xJ:i=m
  ·subst xJ;rw[Zx]at jN;cases jN;obtain⟨c1,blk,cap,A⟩:=hX c a h1 h2 hr br xD;unfold wpOp;have hw:Region.wanted ox (yielded ops a.tmps)=true:=by simp[Region.wanted,A6]
   simp only[mv,hw,if_true];left;have ik:d<a.tmps.size:=by
    have h7:=h4.1;rw[s9]at h7;omega
   have next:=B blk cap f (listed.setIfInBounds i true) (a.put ox.dst (.slice (some ⟨blk,0,none⟩) l'.length cap)) c1 A.ok (by rw[A.heap,h2]) (by rw[o6];exact h3) (xC c1 _ A.vr (.any _)) (by rw[A7];simp[Act.put,ik]) A.rel A.rows (od A.vr h5) (hd.set hi) (by rw[dR];simp) (by
    rw[dR];have:bU listed (ops.size-1)=false:=by
     cases hl:bU listed (ops.size-1)with
     |false=>rfl
     |true=>have:=hd.dep (we i O0) hl;rw[lS]at this;cases this
    rw[this]
    simp;omega) cW xE
   unfold Oper.wp;rcases A.Zp with k1|⟨k1,k2⟩
   ·rw[k1];exact next
   ·cases k2
  ·refine(hx i o v xJ (by omega) jN).1 c a h1 h2 h3 xD i mv _ _ (fun c' u k1 k2 k3 k4=>?_);exact ih _ _ c' k1 k2 (by rw[o6];exact h3) (xC c' u (fun _ _=>k3.vr) k4) (hr.step k3) (br.step h1 k3) (k3.cr h5) (hd.set hi) (by rw[dR,qc];simp;omega) cW xE
theorem DM:∀ (a b:List (Oper × AV)) (L:Nat->Bool) (i:Nat) (s:List AV),cur (a++b) L i s=cur b L (i+a.length) (cur a L i s)
 |[],b,L,i,s=>rfl
 |(o,v)::a,b,L,i,s=>by
  simp only[aeH,cur,aef];rw[DM a b,show i+1+a.length=i+(a.length+1) by omega]
theorem O2(q:List (Oper × AV))(i k:Nat)(s:List AV):cur q (fun x=>decide (x<i+k)) i s=cur q (fun x=>decide (x<k)) 0 s:=by
 have:=Ck i q (fun x=>decide (x<i+k)) 0 s;rw[ad5]at this;rw[this]
 congr 1
 funext x;exact decide_eq_decide.2 (by omega)
theorem Zz(q:List (Oper × AV))(i k:Nat)(s:List AV)(hk:q.length<=k):cur q (fun x=>decide (x<i+k)) i s=cur q (fun x=>decide (x<q.length)) 0 s:=by
 rw[O2];apply List.ext_getElem?;intro t;refine zL q _ _ 0 s s rfl rfl fun j o v hj _=>?_;have:=(List.getElem?_eq_some_iff.1 hj).1;rw[decide_eq_true (by omega),decide_eq_true (by omega)]
end
section
variable {E:Env} {aj:FuncId} {R:cF} {ops:Array Oper} {k:List aT} {lits:List Nat} {s:List AV} {h:List af}
theorem J.ZA(hm:E.P.follows .mixedOrders=true){id d:Nat}{L1 L2:List Oper}{ox ol:Oper}(DN:ops.toList=L1++ox::(L2++[ol]))(zX:Ci ops=true)(we:Cj ops ((List.range (ops.size-1)).map fun i=>(i,ops.size-1))=true)
  (A6:ox.guard=none) (A7:ox.dst=some d) (nG:ol.dst=none) (bI:(L1++L2).all (fun o=>match o.dst with|some e => !(Nat.beq e d)|none=>true)=true) (gz:d<s.length) {ts:Nat × Nat} {l':List DV} {rest:List bo}
  (H:bT E ops h (fun s1=>(∀ (c0 c:Cx) (a:Act),c0.heap.length=R.n->aM E.G c->c.heap=h->dc c0 c->cT c0.w.heap.size c R.rows R.fx.loops->VS c (dh (dK ops ox) 0 s1) a.tmps->∃ c' blk cap,A5 E ox c0 c a ts l' rest R.fx.loops c' blk cap) /\
   bT E ops h (fun s2=>∀ blk cap,∃ h2,ep E ops ol (s2.set d (.d (.raw (.slice (some ⟨blk,0,none⟩) l'.length cap)))) (h++[.gone]) (.d .undef) h2 /\
    J E aj ⟨R.n,R.Q,.row ⟨blk,cap,ts,l'⟩::rest,R.fx⟩ [] k (s2.set d (.d (.raw (.slice (some ⟨blk,0,none⟩) l'.length cap)))) h2) L2 (b8 s1 ox.dst .any)) L1 s):J E aj R lits (.code (.region id ops true)::k) s h:=by
 obtain⟨dA,p1,⟨hX,H2⟩,p3⟩:=bT.lay H;obtain⟨lB,q1,gI,q3⟩:=bT.lay H2
 let P:List (Oper × AV):=dA++(ox,.any)::(lB++[(ol,.d .undef)])
 have kc:P.map (·.1)=ops.toList:=by simp[P,p1,q1,DN]
 have bR:ops.size=dA.length+lB.length+2:=by
  have:=congrArg List.length kc;simp[P]at this;omega
 have e1:∀ k,k<=dA.length->cur P (fun i=>decide (i<k)) 0 s=cur dA (fun i=>decide (i<k)) 0 s:=fun k hk=>by
  show cur (dA++_) _ 0 s=_;rw[DM,qX _ _ _ _ (fun j _=>decide_eq_false (by omega))]
 have e2:∀ k,k<=lB.length->cur P (fun i=>decide (i<dA.length+1+k)) 0 s=cur lB (fun i=>decide (i<k)) 0 (b8 (cur dA (fun i=>decide (i<dA.length)) 0 s) ox.dst .any):=fun k hk=>by
  show cur (dA++_) _ 0 s=_;rw[DM,cur,if_pos (decide_eq_true (by omega)),DM,qX _ _ _ _ (fun j _=>decide_eq_false (by omega)),show 0+dA.length+1=dA.length+1 by omega,O2 lB (dA.length+1) k];have:=Zz dA 0 (dA.length+1+k) s (by omega);rw[ad5]at this;rw[this]
 have O3:ops.size-1=dA.length+1+lB.length:=by omega
 have ZB:cur P (fun i=>decide (i<ops.size-1)) 0 s=cur lB (fun i=>decide (i<lB.length)) 0 (b8 (cur dA (fun i=>decide (i<dA.length)) 0 s) ox.dst .any):=by rw[O3];exact e2 _ (aed _)
 refine .of (AW.Zt hm fun c0 c t oK Q h0 hQ h1 h2 h4 hr br h5=>?_);have O4:∀ k,k<dA.length->P[k]?=dA[k]? := fun k hk=>ael hk;have O5:∀ k,k<lB.length->P[dA.length+1+k]?=lB[k]? := fun k hk=>by
  show(dA++_)[_]?=_;rw[ae9 (by omega),show dA.length+1+k-dA.length=k+1 by omega,agf,ael hk]
 have ZC:∀ k o v,k≠dA.length->P[k]?=some (o,v)->o.dst≠some d:=fun k o v hk qu he=>by
  have vg:o∈L1++L2\/o=ol:=by
   rcases agn k dA.length with h|h|h
   ·rw[O4 k h]at qu;exact .inl (agc _ (by rw[<- p1];exact aer.2 ⟨_,afh qu,rfl⟩))
   ·exact absurd h hk
   ·obtain⟨j,rfl⟩:∃ j,k=dA.length+1+j:=⟨k-dA.length-1,by omega⟩;rcases adV j lB.length with hj|hj
    ·rw[O5 j hj]at qu;exact .inl (agd _ (by rw[<- q1];exact aer.2 ⟨_,afh qu,rfl⟩))
    ·have:(dA++(ox,AV.any)::(lB++[(ol,AV.d .undef)]))[dA.length+1+j]?=some (o,v):=qu;rw[ae9 (by omega),show dA.length+1+j-dA.length=j+1 by omega,agf,ae9 hj]at this;have nr:j-lB.length=0:=by have:=aX this;simp at this;omega
     rw[nr]at this;simp at this;exact .inr this.1.symm
  rcases vg with vg|rfl
  ·have:=List.all_eq_true.1 bI o vg;rw[he]at this;simp at this
  ·rw[nG]at he;cases he
 have ZD:=Zw (E:=E) (ops:=ops) (h:=h) (K5 zX) (s0:=s) (P:=P) (m:=dA.length) (d:=d) (ox:=ox) (ol:=ol) kc (by omega) (by omega) (by show(dA++_)[_]?=_;simp) ⟨.d .undef,by
   rw[O3];show(dA++_)[_]?=_;rw[ae9 (by omega),show dA.length+1+lB.length-dA.length=lB.length+1 by omega,agf,ae9 (aed _),afY]
   rfl⟩ A6 A7 gz ZC (fun i hi=>K6 we (i,ops.size-1) (aer.2 ⟨i,List.mem_range.2 hi,rfl⟩))
  (fun k o v hk hkN qu=>by
   rcases agn k dA.length with h'|h'|h'
   ·rw[e1 k (by omega)];rw[O4 k h']at qu;exact p3 k o v qu
   ·exact absurd h' hk
   ·obtain⟨j,rfl⟩:∃ j,k=dA.length+1+j:=⟨k-dA.length-1,by omega⟩;rw[e2 j (by omega)];rw[O5 j (by omega)]at qu
    exact q3 j o v qu) (c0:=c0) (oK:=oK) (cls:=R.fx.cls) (Iw:=R.rows) (rest:=rest) (loops:=R.fx.loops) (ts:=ts) (l':=l')
  (fun c a a1 a2 a3 a4 a5=>hX c0 c a h0 a1 a2 a3 a4 (by rw[e1 _ (aed _)]at a5;exact a5)) (Q:=Q)
  (fun blk cap a c a1 a2 a3 a4 a5 a6 a7 K hK=>by
   rw[ZB]at a4;obtain⟨vx,hS,hA⟩:=gI blk cap;have BI:ops[ops.size-1]?=some ol:=by
    have:ops.toList[ops.size-1]?=some ol:=by
     rw[DN];have l1:L1.length=dA.length:=by rw[<- p1];simp
     have l2:L2.length=lB.length:=by rw[<- q1];simp
     rw[ae9 (by omega),show ops.size-1-L1.length=L2.length+1 by omega,agf,ae9 (aed _),afY];rfl
    simpa using this
   refine hS c a a1 a2 a3 a4.mask _ BI _ _ fun c' u b1 b2 b3 b4=>hK _ _ ?_;have e:a.put ol.dst u=a:=by rw[nG];rfl
   rw[e];have ZE:=J.to hA
   exact hQ a c' _ vx _ ZE b1 b2 a3 (b3.vs a4) (a5.step b3) (a6.step a1 b3) (b3.cr a7))
 exact ZD.2 ops.size _ ⟨t,[]⟩ c h1 h2 rfl (by rw[qX _ 0 s _ (fun i _=>ta _ _)];exact h4) hr br h5 ⟨by simp,fun j o e _ hl=>by rw[ta]at hl;cases hl⟩ (ta _ _) (fun i _=>ta _ i) (Lb _ _)
theorem ep.to{o:Oper}{v:AV}{h':List af}(hg:o.guard=none)(ho:bz E o.op (dh (dK ops o) 0 s) h v h'):ep E ops o s h v h':=fun c a h1 h2 _ h4 j hj K Q hK=>by
 obtain⟨c',u,k1,k2,k3,k4,k5⟩:=ho o c a rfl h2 h1 h4;unfold wpOp;simp only[hj,(gb hg) c a.tmps h4,if_true];left;have:=hK c' u k3 k2 k5 k4;unfold Oper.wp;rcases k1 with k1|⟨k1,rfl⟩
 ·rw[k1];exact this
 ·rw[k1];exact this
@[irreducible] def tS (E : Env) (ops : Array Oper) (o : Oper) (s : List AV) (h : List af) (K : List af -> Prop) : Prop := ∃ h2, ep E ops o s h (.d .undef) h2 /\ K h2
theorem tS.of(hE:E.OK){o:Oper}{K:List af->Prop}(hg:o.guard=none)(H:ot E o.op (dh (dK ops o) 0 s) h False fun u hh=>u=.d .undef/\K hh):tS E ops o s h K:=by
 unfold tS;rcases ze hE H with h|⟨u,hh,⟨rfl,hK⟩,h⟩
 ·exact h.elim
 ·exact⟨hh,ep.to hg h,hK⟩
theorem J.last{o:Oper}{d:Nat}{v:AV}{td:List aT}(H:fG s d v fun s'=>tS E ops o s' h fun h2=>J E aj R lits td s' h2):∃ h2,ep E ops o (s.set d v) h (.d .undef) h2/\J E aj R lits td (s.set d v) h2:=by
 rw[gF]at H;unfold tS at H;exact H
theorem J.ZF{td:List aT}{b g:Nat}{ts:Nat × Nat}{l l':List DV}(rs:List Row)(p9:R.rows=rs.map .row)(hb:h[b]?=some (.arr g ts l))(hn:R.n<=b)(hl:l'.length=l.length)
  (hm:∀ (i:Nat) (e e':DV),l[i]?=some e->l'[i]?=some e'->e'.cells.length=e.cells.length/\∀ (j:Nat) (x x':DV),e.cells[j]?=some x->e'.cells[j]?=some x'->x'=x\/∃ r∈rs,x=.raw (.slice (some ⟨r.blk,0,none⟩) r.l.length r.cap)/\x'=.sl r.l)
  (H:fG h b (.arr g ts l') fun h2=>J E aj ⟨R.n,R.Q,[],R.fx⟩ lits td s h2):J E aj R lits td s h:=by
 rw[gF]at H;have H:=H.to;refine .of ?_;unfold AW at H ⊢;intro c0 c t oK h0 h1 h2 h3 hr br h4 h5 cs;subst h2;have eS:=aX hb
 let c':Cx:=⟨c.own,c.heap.set b (.arr g ts l'),fun x=>c.aE x/\∀ r∈rs,x≠r.blk,c.w⟩
 have aP:∀ r∈rs,mn c0.w.heap.size c r:=fun r hr=>br.all.each (.row r) (agc _ (by rw[p9];exact aer.2 ⟨r,hr,rfl⟩));have oR:∀ x,c'.bad x->c.bad x:=fun x hx=>hx.elim (fun h => .inl h.1) fun⟨i,n,h⟩ => .inr ⟨i,n,h⟩;have O6:∀ x,x<c.w.heap.size->¬ c.bad x->¬ c'.bad x/\c'.w.heap[x]?=c.w.heap[x]? := fun x _ hx=>⟨fun h=>hx (oR x h),rfl⟩;have dG:c'.heap[b]?=some (.arr g ts l'):=aei eS;have rh:∀ i,i≠b->c'.heap[i]?=c.heap[i]? := fun i hi=>aej (Ne.symm hi);have dx:∀ i bx,c.heap[i]?=some bx->tY c c' i bx:=fun i bx hi=>by
  by_cases e:i=b
  ·subst e;rw[hb]at hi;cases hi;exact .inl ⟨g,l',dG,.inr ⟨rfl,hl,rfl⟩⟩
  ·exact ml hi (rh i e) rfl
 have iQ:∀ x v,VR c x v->VR c' x v:=fun x v hv=>sj O6 dx hv;have fw:∀ x v,VD c.bad c.w x v->VD c'.bad c'.w x v:=fun x v hv=>hv.mono O6;have ZG:∀ r∈rs,VD c'.bad c'.w (.sl r.l) (.slice (some ⟨r.blk,0,none⟩) r.l.length r.cap):=fun r hr=>by
  obtain⟨k1,k2,k3,k4,vs,k5,k6,k7,k8,k9⟩:=aP r hr;have Gw:=mf k5;refine .sl r.l r.blk 0 r.cap r.ts.2 (fun i j=>vs.toList.getD (i*r.ts.2+j) undef) (fun _ hx=>?_) k3 k7 k4 (fun i j e x he hx=>?_) (fun i j e x he hx=>?_) (fun i j e x he hx=>?_)
  ·rcases hx with hx|⟨i,n,hi⟩
   ·exact hx.2 r hr rfl
   ·exact h3.sep i _ n hi k1
  ·obtain⟨v,g1,-,g2⟩:=k9 i j e x he hx;rw[Gw (i*r.ts.2+j) v (by simpa using g1)];simp[aem,g1]
  ·obtain⟨v,g1,-,g2⟩:=k9 i j e x he hx;simp only[aem,aeh,g1,aeB];exact fw _ _ g2
  ·obtain⟨v,g1,g2,-⟩:=k9 i j e x he hx;simp only[aem,aeh,g1,aeB];exact g2
 have dE:∀ {i:Nat} {e':DV},l'[i]?=some e'->∃ e,l[i]?=some e:=fun{i e'} he=>⟨l[i]'(by have:=aX he;omega),afo _⟩
 have ZH:aM E.G c':={
  bS:=fun x hx=>h3.bS x hx.1
  bB:=fun i x n hi=>by have:=h3.bB i x n hi;exact⟨this.1,by show i<(c.heap.set b _).length;rw[aeX];exact this.2⟩
  inj:=h3.inj
  sep:=fun i x n hi hx=>h3.sep i x n hi hx.1
  box:=fun i bx hi=>by
   by_cases e:i=b
   ·subst e;rw[dG]at hi;cases hi;obtain⟨q0,q1,q2⟩:=h3.box i _ hb;refine⟨q0,fun j e' kY=>?_,?_⟩
    ·obtain⟨e,he⟩:=dE kY;rw[(hm j e e' he kY).1];exact q1 j e he
    ·rcases q2 with⟨q2,q3⟩|⟨blk,cap,vs,q2,q3,q4,q5,q6,q7⟩
     ·exact .inl ⟨q2,List.eq_nil_of_length_eq_zero (by rw[hl,q3];rfl)⟩
     ·refine .inr ⟨blk,cap,vs,q2,q3,q4,by rw[hl];exact q5,q6,fun j n e' x' kY eh=>?_⟩;obtain⟨e,he⟩:=dE kY;obtain⟨m1,m2⟩:=hm j e e' he kY;obtain⟨x,hx⟩:∃ x,e.cells[n]?=some x:=⟨e.cells[n]'(by have:=aX eh;omega),afo _⟩;obtain⟨v,g1,g2,g3⟩:=q7 j n e x he hx;refine⟨v,g1,g2,?_⟩;rcases m2 n x x' hx eh with rfl|⟨r,hr,rfl,rfl⟩
      ·exact fw _ _ g3
      ·cases g3;exact ZG r hr
   ·rw[rh i e]at hi;exact(h3.box i bx hi).gen iQ fw rfl (fun _ _ _=>rfl)
  fS:=fun x e hg=>iQ _ _ (h3.fS x e hg) }
 have hblk:∀ x,c.aE x->(∃ r∈rs,x=r.blk)->c0.w.heap.size<=x:=fun x _ ⟨r,hr,e⟩=>by rw[e];exact(aP r hr).new
 have hR:dc c0 c':={
  lim:=hr.lim
  mj:=hr.mj
  aE:=fun x hx=>⟨hr.aE x hx,fun r yR e=>by have:=hr.lim x hx;have:=(aP r yR).new;omega⟩
  nb:=fun x hx=>hr.nb x hx.1
  os:=hr.os
  tape:=hr.tape
  output:=hr.output
  size:=hr.size
  keep:=hr.keep
  dB:=hr.dB
  boxes:=fun i bx hi=>uZ (c:=c) (c':=c') (fun x hx=>by
   have bF:i≠b:=fun e=>by have:=aX hi;omega
   rw[rh i bF];exact hx) (fun _ _=>rfl) (hr.boxes i bx hi) }
 have ZI:cT c0.w.heap.size c' [] R.fx.loops:=by
  refine⟨⟨fun gh hg=>?_,?_⟩,fun gh hg=>by cases hg⟩
  ·have s6:gh∈R.rows++R.fx.loops:=agd _ (by simpa using hg);refine(br.all.each gh s6).gen (fun x hx=>⟨⟨(br.all.each gh s6).aE x hx,fun r yR e=>?_⟩,rfl⟩) fw iQ;have c8:=br.all.nodup;rw[agJ]at c8;refine(aeK.1 c8).2.2 r.blk (afd.2 ⟨.row r,by rw[p9];exact aer.2 ⟨r,yR,rfl⟩,by simp[bo.cm]⟩) x (afd.2 ⟨gh,by simpa using hg,hx⟩) e.symm
  ·have c8:=br.all.nodup;rw[agJ]at c8;exact(aeK.1 c8).2.1
 exact H c0 c' t oK h0 h1 rfl ZH hR ZI ⟨h4.1,fun i x v hx hv=>iQ x v (h4.2 i x v hx hv)⟩ (od iQ h5) cs
theorem Iy{args:Array Operand}{O7:Array Nat}{x:Operand}{a:Option Addr}{n cp:Nat}{t e:Nat}{i:bu}(hE:E.OK)(hx:args.toList[0]?=some x)(ht:O7.toList[0]?=some t)(hi:E.T[t]?=some i)(hk:i.k=.slice e)(hv:bh E.G s x (.d (.raw (.slice a n cp)))) :
  bz E (.call { callee := .builtin .len,args:=args,argTypes:=O7 }) s h (.d (.int .i64 n)) h := .quiet fun o c ac e1 h2 h3 h4=>by
 have eK:=hv c ac h3 h4;have q:ac.eval x=.slice a n cp:=by
  generalize ac.eval x=p at eK ⊢;cases eK with|d _ _ hd=>cases hd;rfl
 exact⟨_,wJ e1 hx ht (hE.types t i hi) q (.inl ⟨e,_,_,hk,rfl⟩),.d _ _ (.int _ _)⟩
theorem bT.op{K:List AV->Prop}{o:Oper}{l:List Oper}(hg:o.guard=none)(v:AV)(H1:bz E o.op (dh (dK ops o) 0 s) h v h)(H2:bz E o.op (dh (dK ops o) 0 s) (h++[.gone]) v (h++[.gone]))(H:cg s o.dst v fun s'=>bT E ops h K l s'):bT E ops h K (o::l) s:=by
 rw[dX]at H;unfold bT at H ⊢;exact⟨v,ep.any (gb hg) H1,ep.any (gb hg) H2,H⟩
theorem J.Iz(hm:E.P.follows .mixedOrders=true)(m n:Nat){id d:Nat}{ox ol:Oper}(DN:ops.toList=ops.toList.take m++ox::((ops.toList.drop (m+1)).take n++[ol]))(zX:Ci ops=true)(we:Cj ops ((List.range (ops.size-1)).map fun i=>(i,ops.size-1))=true)
  (A6:ox.guard=none) (A7:ox.dst=some d) (nG:ol.dst=none) (bI:(ops.toList.take m++(ops.toList.drop (m+1)).take n).all (fun o=>match o.dst with|some e => !(Nat.beq e d)|none=>true)=true) (gz:d<s.length) (ts:Nat × Nat) (l':List DV) (rest:List bo)
  (H:bT E ops h (fun s1=>(∀ (c0 c:Cx) (a:Act),c0.heap.length=R.n->aM E.G c->c.heap=h->dc c0 c->cT c0.w.heap.size c R.rows R.fx.loops->VS c (dh (dK ops ox) 0 s1) a.tmps->∃ c' blk cap,A5 E ox c0 c a ts l' rest R.fx.loops c' blk cap) /\
   bT E ops h (fun s2=>∀ blk cap,∃ h2,ep E ops ol (s2.set d (.d (.raw (.slice (some ⟨blk,0,none⟩) l'.length cap)))) (h++[.gone]) (.d .undef) h2 /\
    J E aj ⟨R.n,R.Q,.row ⟨blk,cap,ts,l'⟩::rest,R.fx⟩ [] k (s2.set d (.d (.raw (.slice (some ⟨blk,0,none⟩) l'.length cap)))) h2) ((ops.toList.drop (m+1)).take n) (b8 s1 ox.dst .any)) (ops.toList.take m) s):J E aj R lits (.code (.region id ops true)::k) s h :=
 J.ZA hm DN zX we A6 A7 nG bI gz H
theorem bT.from{K:List AV->Prop}{l:List Oper}{d:Option Nat}{v:AV}(H:cg s d v fun s'=>bT E ops h K l s'):bT E ops h K l (b8 s d v):=by rwa [dX]at H
theorem J.set{td:List aT}{d:Nat}{v:AV}(H:fG s d v fun s'=>J E aj R lits td s' h):J E aj R lits td (s.set d v) h:=by rwa [gF]at H
theorem O8{E:Env}(hE:E.OK){o:Op}{s:List AV}{h:List af}{v:AV}{h':List af}(H:jZ E.T E.G o s h False fun u hh=>u=v/\hh=h'):bz E o s h v h':=by
 rcases BC hE H with h|⟨u,hh,⟨rfl,rfl⟩,h⟩
 ·exact h.elim
 ·exact h
theorem bT.o{K:List AV->Prop}{o:Oper}{l:List Oper}(hE:E.OK){v:AV}(H:cg s o.dst v fun s'=>bT E ops h K l s')(hg:o.guard=none:=by rfl)(H1:jZ E.T E.G o.op (dh (dK ops o) 0 s) h False (fun u hh=>u=v/\hh=h):=by(conv=>whnf);exact⟨rfl,rfl⟩)(H2:jZ E.T E.G o.op (dh (dK ops o) 0 s) (h++[.gone]) False (fun u hh=>u=v/\hh=h++[.gone]):=by(conv=>whnf);exact⟨rfl,rfl⟩):bT E ops h K (o::l) s:=bT.op hg v (O8 hE H1) (O8 hE H2) H
theorem IA{E:Env}(hE:E.OK){o:Op}{s:List AV}{h:List af}{v:AV}{h':List af}(H:sD E.T E.G o s h False fun u hh=>u=v/\hh=h'):bz E o s h v h':=by
 rcases JT hE H with h|⟨u,hh,⟨rfl,rfl⟩,h⟩
 ·exact h.elim
 ·exact h
theorem yk{E:Env}(hE:E.OK){o:Op}{s:List AV}{h:List af}{v:AV}{h':List af}(H:ot E o s h False fun u hh=>u=v/\hh=h'):bz E o s h v h':=by
 rcases ze hE H with h|⟨u,hh,⟨rfl,rfl⟩,h⟩
 ·exact h.elim
 ·exact h
theorem J.IB{o:Oper}{l:List Oper}{v:AV}{h':List af}(hw:ig ops o s true)(ho:bz E o.op s h v h')(H:cg s o.dst v fun s'=>J E aj R lits (.bw ops l::k) s' h'):J E aj R lits (.bw ops (o::l)::k) s h:=by
 rw[dX]at H;exact .of (.op hw ho H.to)
end
end Go.aA
end
