/- Several texts of mine, one behind the other. Conditions: as each says. -/
import Derived.Test.YtcmnpelmmekdkaaGreatDoorY22
set_option linter.unusedVariables false
set_option linter.unusedSimpArgs false
section
namespace Go.Proofs.YtcmnpelmmekdkaaGreatDoor.P
open Go Go.ax
set_option maxRecDepth 100000
set_option maxHeartbeats 4000000
theorem Aw (z:aU) (q:aS) (cut:Text) (b:Bool) (w n:Text) (V:gd z) (hn:Nm.valid n=true):aC E 97 [bF z q cut b w,bu z] [.ptr 0 0,.d (.str n)] (fun x h=>x = .d (.bool (jA z.af n))∧h=[bF z q cut b w,bu z]) :=
 aC.rE (XL z q cut b w n V.sorted (by have:=V.len; omega) V.names hn) rfl rfl
theorem vi (z:aU) (q:aS) (cut:Text) (b:Bool) (w n:Text) (V:gd z) (hn:Nm.valid n=true):aC E 99 [bF z q cut b w,bu z] [.ptr 0 0,.d (.str n)] (fun x h=>x = .d (.int .i64 (eM z.af n))∧h=[bF z q cut b w,bu z]) :=
 aC.rE (XV z q cut b w n V.sorted (by have:=V.len; omega) V.names hn) rfl rfl
theorem mh (z:aU) (q:aS) (cut:Text) (b:Bool) (w:Text) (kind:Int) (ps:List Int) (hf:z.mc) (eF:∀ p∈ps,p<z.af.length) (hl:ps.length≤1000):aC E 96 [bF z q cut b w,bu z] [.ptr 0 0,.d (.int .i64 kind),.d (.sl (ps.map (.int .i64)))] (fun x h=>x = .d (oT kind (dI z.af (cV ps)) [])∧h=[bF z q cut b w,bu z]) :=
 aC.rE (XO z q cut b w kind ps hf eF hl) rfl rfl
theorem XW (z:aU) (q:aS) (cut:Text) (b:Bool) (w:Text) (V:gd z) (hf:z.mc):aC E 54 [bF z q cut b w,bu z] [.ptr 0 0] (fun x h=>x = .aL [.d (oT 1 (dI z.af (cV [aO z.af q])) []),.d (.bool (decide (aO z.af q≥0)))]∧h=[bF z q cut b w,bu z]):=by
 have c1:=rD z q cut b w q.name q.type V.sorted;have c2:=mh z q cut b w 1 [aO z.af q] hf (fun p hp=>by simp at hp; subst hp; exact ib.2) (by simp);simp only [List.map_cons,List.map_nil] at c2;unfold bF bu at c1 c2;apply aC.rE
 case hk=>rfl
 case hc =>
  unfold bF bu;refine aC.run aj (fn:=Tryz.f54) Tryz.func54 (body:=Tryz.f54.body.getD .skip) rfl (by decide) 2000 rfl ?_;(conv=>whnf);refine aa.draw aj bW 13 2000 (by kernel_rfl) ?_;(conv=>whnf);refine cb.jW (ah:=[0,1]) c1 rfl rfl ff (pU (bh rfl) (bh rfl) (bh rfl)) (by decide) (by simp) rfl rfl rfl ?_;refine gD ?_;refine gS ?_;refine gO Tryz.func54 ?_
  with_reducible refine bR (c2) ?_
  refine gO Tryz.func54 ?_;exact ⟨rfl,rfl⟩
 case hr=>rfl
theorem XX (z:aU) (q:aS) (cut:Text) (b:Bool) (w:Text) (V:gd z) (hf:z.mc):aC E 55 [bF z q cut b w,bu z] [.ptr 0 0] (fun x h=>x = .aL [.d (oT 3 (dI z.af (cV [aO z.af ⟨q.name,3⟩])) []),.d (.bool (decide (aO z.af ⟨q.name,3⟩≥0)&&(q.type != 8)))]∧h=[bF z q cut b w,bu z]):=by
 have c1:=rD z q cut b w q.name 3 V.sorted;have ai:=(ib (l:=z.af) (q:=⟨q.name,3⟩)).2;generalize aO z.af ⟨q.name,3⟩=i at *;have c2:=mh z q cut b w 3 [i] hf (fun p hp=>by simp at hp; subst hp; exact ai) (by simp);simp only [List.map_cons,List.map_nil] at c2;unfold bF bu at c1 c2;apply aC.rE
 case hk=>rfl
 case hc =>
  unfold bF bu;refine aC.run aj (fn:=Tryz.f55) Tryz.func55 (body:=Tryz.f55.body.getD .skip) rfl (by decide) 2000 rfl ?_;conv=>whnf
  with_reducible refine bR (c1) ?_
  refine gO Tryz.func55 ?_;refine aa.Hh aj bW [0,1,2,4,5,6,7,8,9,10,11,12,13] [2] 2000 (by kernel_rfl) ?_;(conv=>whnf);refine bw.run aj 2000 rfl rfl ?_;(conv=>whnf);refine FM (c2) ?_;(conv=>whnf);refine And.intro rfl ?_;(conv=>whnf);refine bw.run aj 2000 rfl rfl ?_;(conv=>whnf);by_cases h:i≥0
  ·refine aM (decide_eq_true h) ?_;(conv=>whnf);refine bw.run aj 2000 rfl rfl ?_;(conv=>whnf);refine And.intro rfl ?_;(conv=>whnf);refine bw.run aj 2000 rfl rfl ?_;(conv=>whnf);refine And.intro rfl ?_;(conv=>whnf);refine bw.run aj 2000 rfl rfl ?_;(conv=>whnf);refine gO Tryz.func55 ?_;rw [decide_eq_true h,Bool.true_and];exact ⟨rfl,rfl⟩
  ·refine aI (decide_eq_false h) ?_;(conv=>whnf);refine bw.run aj 2000 rfl rfl ?_;(conv=>whnf);refine And.intro rfl ?_;(conv=>whnf);refine bw.run aj 2000 rfl rfl ?_;(conv=>whnf);refine And.intro rfl ?_;(conv=>whnf);refine bw.run aj 2000 rfl rfl ?_;(conv=>whnf);refine gO Tryz.func55 ?_;rw [decide_eq_false h,Bool.false_and];exact ⟨rfl,rfl⟩
 case hr=>rfl
theorem OW (z:aU) (q:aS) (cut:Text) (b:Bool) (w:Text) (V:gd z) (hf:z.mc) (hq:Nm.valid q.name=true):aC E 57 [bF z q cut b w,bu z] [.ptr 0 0] (fun x h=>x = .aL [.d (oT 2 (dI z.af (cV [aO z.af ⟨w,q.type⟩,eM z.af q.name])) []),.d (.bool (decide (aO z.af ⟨w,q.type⟩≥0)))]∧h=[bF z q cut b w,bu z]):=by
 have c1:=rD z q cut b w w q.type V.sorted;have c3:=vi z q cut b w q.name V hq;have ai:=(ib (l:=z.af) (q:=⟨w,q.type⟩)).2;have gX:=(va (l:=z.af) (n:=q.name)).2;generalize aO z.af ⟨w,q.type⟩=i at *;generalize eM z.af q.name=j at *;have c2:=mh z q cut b w 2 [i,j] hf (fun p hp=>by simp at hp; rcases hp with rfl | rfl <;> assumption) (by simp);simp only [List.map_cons,List.map_nil] at c2;unfold bF bu at c1 c2 c3;apply aC.rE
 case hk=>rfl
 case hc =>
  unfold bF bu;refine aC.run aj (fn:=Tryz.f57) Tryz.func57 (body:=Tryz.f57.body.getD .skip) rfl (by decide) 2000 rfl ?_;(conv=>whnf);refine aa.draw aj bW 12 2000 (by kernel_rfl) ?_;(conv=>whnf);refine cb.jW (ah:=[0,1]) c1 rfl rfl ff (pU (bh rfl) (bh rfl) (bh rfl)) (by decide) (by simp) rfl rfl rfl ?_;refine gD ?_;refine gS ?_;refine gO Tryz.func57 ?_
  with_reducible refine bR (c3) ?_
  refine gO Tryz.func57 ?_
  with_reducible refine bR (c2) ?_
  refine gO Tryz.func57 ?_;exact ⟨rfl,rfl⟩
 case hr=>rfl
theorem OX (z:aU) (q:aS) (cut:Text) (b:Bool) (w:Text) (V:gd z) (hf:z.mc) (hq:Nm.valid q.name=true):aC E 58 [bF z q cut b w,bu z] [.ptr 0 0] (fun x h=>x = .aL [.d (oT 3 (dI z.af (cV [aO z.af ⟨w,3⟩,eM z.af q.name])) []),.d (.bool (decide (aO z.af ⟨w,3⟩≥0)&&(q.type != 8)))]∧h=[bF z q cut b w,bu z]):=by
 have c1:=rD z q cut b w w 3 V.sorted;have c3:=vi z q cut b w q.name V hq;have ai:=(ib (l:=z.af) (q:=⟨w,3⟩)).2;have gX:=(va (l:=z.af) (n:=q.name)).2;generalize aO z.af ⟨w,3⟩=i at *;generalize eM z.af q.name=j at *;have c2:=mh z q cut b w 3 [i,j] hf (fun p hp=>by simp at hp; rcases hp with rfl | rfl <;> assumption) (by simp);simp only [List.map_cons,List.map_nil] at c2;unfold bF bu at c1 c2 c3;apply aC.rE
 case hk=>rfl
 case hc =>
  unfold bF bu;refine aC.run aj (fn:=Tryz.f58) Tryz.func58 (body:=Tryz.f58.body.getD .skip) rfl (by decide) 2000 rfl ?_;conv=>whnf
  with_reducible refine bR (c1) ?_
  refine gO Tryz.func58 ?_;refine aa.Hh aj bW [0,1,2,3,4,5,6,7,9,11,12,13,14,15,16,17,18,19,20] [2] 2000 (by kernel_rfl) ?_;(conv=>whnf);refine bw.run aj 2000 rfl rfl ?_;(conv=>whnf);refine FM (c3) ?_;(conv=>whnf);refine And.intro rfl ?_;(conv=>whnf);refine bw.run aj 2000 rfl rfl ?_;(conv=>whnf);refine FM (c2) ?_;(conv=>whnf);refine And.intro rfl ?_;(conv=>whnf);refine bw.run aj 2000 rfl rfl ?_;(conv=>whnf);by_cases h:i≥0
  ·refine aM (decide_eq_true h) ?_;(conv=>whnf);refine bw.run aj 2000 rfl rfl ?_;(conv=>whnf);refine And.intro rfl ?_;(conv=>whnf);refine bw.run aj 2000 rfl rfl ?_;(conv=>whnf);refine And.intro rfl ?_;(conv=>whnf);refine bw.run aj 2000 rfl rfl ?_;(conv=>whnf);refine gO Tryz.func58 ?_;rw [decide_eq_true h,Bool.true_and];exact ⟨rfl,rfl⟩
  ·refine aI (decide_eq_false h) ?_;(conv=>whnf);refine bw.run aj 2000 rfl rfl ?_;(conv=>whnf);refine And.intro rfl ?_;(conv=>whnf);refine bw.run aj 2000 rfl rfl ?_;(conv=>whnf);refine And.intro rfl ?_;(conv=>whnf);refine bw.run aj 2000 rfl rfl ?_;(conv=>whnf);refine gO Tryz.func58 ?_;rw [decide_eq_false h,Bool.false_and];exact ⟨rfl,rfl⟩
 case hr=>rfl
theorem OY (z:aU) (q:aS) (cut:Text) (b:Bool) (w:Text) (V:gd z) (hf:z.mc) (hq:Nm.valid q.name=true) (hw:w=[]∨Nm.valid w=true):aC E 60 [bF z q cut b w,bu z] [.ptr 0 0] (fun x h=>x = .d (oT 6 (dI z.af (cV (if w=[] then [aO z.af ⟨z.ab,4⟩,eM z.af q.name,-1] else [aO z.af ⟨z.ab,4⟩,eM z.af q.name,eM z.af w]))) [])∧h=[bF z q cut b w,bu z]):=by
 have c1:=HK z q cut b w V.sorted;have c3:=vi z q cut b w q.name V hq;have ai:=(ib (l:=z.af) (q:=⟨z.ab,4⟩)).2;have gX:=(va (l:=z.af) (n:=q.name)).2;have XY:=(va (l:=z.af) (n:=w)).2;generalize aO z.af ⟨z.ab,4⟩=i at *;by_cases he:w=[]
 ·rw [if_pos he];generalize eM z.af q.name=j at *;have c2:=mh z q cut b w 6 [i,j,-1] hf (fun p hp=>by simp at hp; rcases hp with rfl | rfl | rfl <;> first | assumption | omega) (by simp);simp only [List.map_cons,List.map_nil] at c2;unfold bF bu at c1 c2 c3;apply aC.rE
  case hk=>rfl
  case hc =>
   unfold bF bu;refine aC.run aj (fn:=Tryz.f60) Tryz.func60 (body:=Tryz.f60.body.getD .skip) rfl (by decide) 2000 rfl ?_;(conv=>whnf);refine aI (by simp [he]) ?_;refine gO Tryz.func60 ?_;refine aa.draw aj bW 13 2000 (by kernel_rfl) ?_;(conv=>whnf);refine cb.jW (ah:=[0,1]) c1 rfl rfl ff (jY (bh rfl)) (by decide) (by simp) rfl rfl rfl ?_;refine gD ?_;refine cb.jW (ah:=[0,1]) c3 rfl rfl ff (mg (bh rfl) (bh rfl)) (by decide) (by simp) rfl rfl rfl ?_;refine gD ?_;refine cb.jW (ah:=[0,1]) c2 rfl rfl ff (pU (bh rfl) pT (bh rfl)) (by decide) (by simp) rfl rfl rfl ?_;refine gD ?_;refine gS ?_;refine gO Tryz.func60 ?_;exact ⟨rfl,rfl⟩
  case hr=>rfl
 ·have c4:=vi z q cut b w w V (hw.resolve_left he);rw [if_neg he];generalize eM z.af q.name=j at *;generalize eM z.af w=m at *;have c2:=mh z q cut b w 6 [i,j,m] hf (fun p hp=>by simp at hp; rcases hp with rfl | rfl | rfl <;> assumption) (by simp);simp only [List.map_cons,List.map_nil] at c2;unfold bF bu at c1 c2 c3 c4;apply aC.rE
  case hk=>rfl
  case hc =>
   unfold bF bu;refine aC.run aj (fn:=Tryz.f60) Tryz.func60 (body:=Tryz.f60.body.getD .skip) rfl (by decide) 2000 rfl ?_;(conv=>whnf);refine aM (by simp [he]) ?_;refine gO Tryz.func60 ?_
   with_reducible refine bR (c4) ?_
   refine gO Tryz.func60 ?_;refine aa.draw aj bW 13 2000 (by kernel_rfl) ?_;(conv=>whnf);refine cb.jW (ah:=[0,1]) c1 rfl rfl ff (jY (bh rfl)) (by decide) (by simp) rfl rfl rfl ?_;refine gD ?_;refine cb.jW (ah:=[0,1]) c3 rfl rfl ff (mg (bh rfl) (bh rfl)) (by decide) (by simp) rfl rfl rfl ?_;refine gD ?_;refine cb.jW (ah:=[0,1]) c2 rfl rfl ff (pU (bh rfl) pT (bh rfl)) (by decide) (by simp) rfl rfl rfl ?_;refine gD ?_;refine gS ?_;refine gO Tryz.func60 ?_;exact ⟨rfl,rfl⟩
  case hr=>rfl
end Go.Proofs.YtcmnpelmmekdkaaGreatDoor.P
end
section
namespace Go.Proofs.YtcmnpelmmekdkaaGreatDoor.P
open Go Go.ax Go.RowKit
set_option maxRecDepth 100000
set_option maxHeartbeats 4000000
theorem O0 {au:Nat→Prop} {w:World} {x y:DV} {vs:List Value} (h:lO au w [x,y] vs):∃ u v,vs=[u,v]∧VD au w x u∧VD au w y v:=by
 obtain ⟨hl,hv⟩:=h;obtain ⟨u,v,rfl⟩:∃ u v,vs=[u,v]:=by
  match vs,hl with
  | [u,v],_=>exact ⟨u,v,rfl⟩
 exact ⟨u,v,rfl,hv 0 x u rfl rfl,hv 1 y v rfl rfl⟩
theorem X1 {w w':World} (h:Below w.heap.size w w'):Ext w w':=⟨h.os,h.tape,h.output,h.size,h.block⟩
theorem X2 (t:Text) (c:UInt8):aA E 142 [.str t,.int .u8 c.toNat] (· = .int .i64 (Lib.indexByte t c)):=by
 unfold aA;refine ⟨⟨_,Tryz.func142,rfl,by decide⟩,fun au w vs _ _ hv=>?_⟩;obtain ⟨u,v,rfl,h1,h2⟩:=O0 hv;cases h1;cases h2;have:=Any.strings_IndexByte Tryz.X0 ⟨t.toArray⟩ (c.toNat:Int) w;refine this.mono fun e w' ⟨h1,h2⟩=>⟨_,_,h1,rfl,?_,by rw [h2]; exact Ext.refl w⟩;rw [show (ByteArray.mk t.toArray).data.toList=t by simp,show ((c.toNat:Int)).toNat.toUInt8=c by simp];exact .int _ _
theorem HQ:∀ (L:List Text),Lib.join L [46]=Nm.glue L
 | []=>rfl
 | [x]=>by simp [Lib.join,List.intercalate,Nm.glue]
 |x::y::t=>by
  have:=HQ (y::t);unfold Lib.join at this ⊢;rw [Nm.glue,← this];simp [List.intercalate]
theorem X3 (L:List Text) (hl:L.length≤1000) (hb:(Nm.glue L).length≤1000000):aA E 213 [.sl (L.map .str),.str [46]] (· = .str (Nm.glue L)):=by
 unfold aA;refine ⟨⟨_,Tryz.func213,rfl,by decide⟩,fun au w vs _ _ hv=>?_⟩;obtain ⟨u,v,rfl,h1,h2⟩:=O0 hv;cases h2;have sX:(L.map fun x=>ByteArray.mk x.toArray).map (·.data.toList)=L:=by simp [Function.comp_def]
 have fin:∀ e w',(e=Ending.returned (.string ⟨(Lib.join ((L.map fun x=>ByteArray.mk x.toArray).map (·.data.toList)) (ByteArray.mk [46].toArray).data.toList).toArray⟩)∧Below w.heap.size w w')→∃ v r,e = .returned v∧r=DV.str (Nm.glue L)∧VD (fun b=>au b) w' r v∧Ext w w':=fun e w' ⟨h1,h2⟩=>by
  refine ⟨_,_,h1,rfl,?_,X1 h2⟩;rw [sX,show (ByteArray.mk [46].toArray).data.toList=[46] by simp,HQ];exact .str _
 generalize hD:L.map DV.str=D at h1;cases h1 with
 |slnil =>
  have hn:L=[]:=List.map_eq_nil_iff.1 hD;subst hn;exact (Any.strings_Join_none Tryz.Dj Tryz.Dk none 0 ⟨#[46]⟩ w).mono fun e w' ⟨q1,q2⟩=>fin e w' ⟨q1,q2 ▸ Below.refl _ _⟩
 |kO a =>
  have hn:L=[]:=List.map_eq_nil_iff.1 hD;subst hn;exact (Any.strings_Join_none Tryz.Dj Tryz.Dk (some a) 0 ⟨#[46]⟩ w).mono fun e w' ⟨q1,q2⟩=>fin e w' ⟨q1,q2 ▸ Below.refl _ _⟩
 |sl _ blk off cap sz f sW bP je hlen dP bT cg =>
  subst hD;by_cases hn:L=[]
  ·subst hn;exact (Any.strings_Join_none Tryz.Dj Tryz.Dk (some ⟨blk,off,none⟩) cap ⟨#[46]⟩ w).mono fun e w' ⟨q1,q2⟩=>fin e w' ⟨q1,q2 ▸ Below.refl _ _⟩
  ·have vT:∀ (j:Nat) x,(L.map fun x=>ByteArray.mk x.toArray)[j]? = some x→w.cell? ⟨blk,off+j,none⟩=some (.string x):=fun j x hx=>by
    rw [List.getElem?_map] at hx;cases e:L[j]? with
    |none=>rw [e] at hx; cases hx
    |some t =>
     rw [e] at hx;cases hx;have e1:(L.map DV.str)[j]? = some (.str t):=by rw [List.getElem?_map,e]; rfl
     have um:sz=1:=(hlen j _ e1).symm;have c1:=dP j 0 (.str t) (.str t) e1 rfl;have v1:=bT j 0 (.str t) (.str t) e1 rfl;rw [um,Nat.mul_one,Nat.add_zero] at c1;rw [c1];generalize f j 0=u at v1;cases v1;rfl
   obtain ⟨t,r,rfl⟩:=List.exists_cons_of_ne_nil hn;have X4:blk<w.heap.size:=World.block_lt_of_cell? _ _ (vT 0 ⟨t.toArray⟩ rfl);have:=Any.strings_Join Tryz.Dj Tryz.Dk blk off cap ((t::r).map fun x=>ByteArray.mk x.toArray) ⟨#[46]⟩ w vT X4 (by simp at hl ⊢; omega) (by simpa using je) (by rw [sX,show (ByteArray.mk [46].toArray).data.toList=[46] by simp,HQ]; omega);rw [List.length_map] at this;rw [List.length_map];exact this.mono fun e w' h=>fin e w' h
theorem X5 (t:Text):aA E 112 [.str t] (· = .bool (Nm.label t)):=by
 unfold aA;refine ⟨⟨_,Tryz.func112,rfl,by decide⟩,fun au w vs _ _ hv=>?_⟩;obtain ⟨hl,hv⟩:=hv;obtain ⟨u,rfl⟩:∃ u,vs=[u]:=by
  match vs,hl with
  | [u],_=>exact ⟨u,rfl⟩
 have h1:=hv 0 (.str t) u rfl rfl;cases h1;refine (Gh ⟨t.toArray⟩ w).mono fun e w' ⟨h1,h2⟩=>⟨_,_,h1,rfl,?_,by rw [h2]; exact Ext.refl _⟩;rw [jS];exact .bool _
theorem X6 (t:Text) (ht:t.length≤maxLen):aA E 72 [.str t] (· = .bool (Nm.valid t)) :=
 Ct (g:=fun t => .bool (Nm.valid t)) t ⟨_,Tryz.func72,rfl,by decide⟩ fun w=>(iq ⟨t.toArray⟩ w (size_mk ht)).mono fun e w' ⟨h1,h2⟩=>⟨_,h1,fun _ _=>by rw [jS]; exact .bool _,h2⟩
def jZ (i:Nat) (x:Text):Bool:=Nm.label x||(decide (i=0)&&decide (x=[42]))
theorem px {L:List Text}:Nm.parts L=true↔L.length≤8∧∀ i x,L[i]? = some x→jZ i x=true:=by
 cases L with
 |nil=>simp [Nm.parts]
 |cons a r =>
  simp only [Nm.parts,Bool.and_eq_true,decide_eq_true_eq,List.all_eq_true];constructor
  ·rintro ⟨h1,h2,h3⟩;refine ⟨h1,fun i x hx=>?_⟩;cases i with
   |zero=>simp at hx; subst hx; simpa [jZ] using h2
   |succ i=>simp at hx; simp [jZ,h3 x (List.mem_of_getElem? hx)]
  ·rintro ⟨h1,h2⟩;refine ⟨h1,by simpa [jZ] using h2 0 a rfl,fun x hx=>?_⟩;obtain ⟨i,hi⟩:=List.getElem?_of_mem hx
   simpa [jZ] using h2 (i+1) x (by simpa using hi)
theorem O1:∀ {L:List Text},(∀ t∈L,t.length≤100)→(Nm.glue L).length≤L.length*101
 | [],_=>by simp [Nm.glue]
 | [x],h=>by have:=h x (by simp); simp [Nm.glue]; omega
 |x::y::t,h=>by
  have h1:=h x (by simp);have h2:=O1 (L:=y::t) fun u hu=>h u (List.mem_cons_of_mem _ hu);rw [Nm.glue];simp only [List.length_append,List.length_cons] at h2 ⊢;omega
theorem X7 (L:List Text) (hl:L.length≤1000) (hb:∀ t∈L,t.length≤100):aA E 154 [.sl (L.map .str)] (· = match oR L with | some t => .aL [.str t,.int .i64 0] | none => .aL [.str [],.int .i64 11]):=by
 have no:Nm.parts L=false→oR L=none:=fun e=>by rw [oR,e]; rfl
 have c2:=fun h=>X3 L hl h;refine eP Tryz.func154 ?_;by_cases h0:L=[]
 ·subst h0;have e:oR []=some [46]:=by decide
  rw [e];refine aM (by decide) ?_;refine gO Tryz.func154 ?_
  with_reducible rfl
 refine aI (by simpa using h0) ?_;refine gO Tryz.func154 ?_;refine aw (fun h1=>?_) (fun h1=>?_)
 ·have h1:=of_decide_eq_true h1
  rw [no (by
   cases e:Nm.parts L
   ·rfl
   ·have:=(px.1 e).1;simp at h1
    omega)]
  refine gO Tryz.func154 ?_
  with_reducible rfl
 have X8:L.length≤8:=by have:=of_decide_eq_false h1; simp at this; omega
 refine gO Tryz.func154 ?_;refine aa.loop (κ:=Nat) (rg 2 4++rg 15 17) (fun k=>[(15,.d (.int .i64 k))]) (fun _=>[]) (fun k=>k≤L.length∧∀ i x,i<k→L[i]? = some x→jZ i x=true) (fun k=>L.length - k) 0 ⟨Nat.zero_le _,fun i x h=>by omega⟩ ?_ ?_
 ·exact sZ
 rintro k ⟨hk,aT⟩ IH;refine aa.head aj Tryz.func154 2000 ?_;(conv=>whnf);refine aw (fun h5=>?_) (fun h5=>?_)
 ·have ai:k<L.length:=by simpa using h5
  obtain ⟨x,hx⟩:=aY ai
  have bad:jZ k x=false→oR L=none:=fun e=>no (by
   cases e2:Nm.parts L
   ·rfl
   ·have:=(px.1 e2).2 k x hx
    rw [e] at this; cases this)
  have good:jZ k x=true→∀ i y,i<k+1→L[i]? = some y→jZ i y=true:=fun e i y hi hy=>by
   rcases Nat.lt_or_eq_of_le (Nat.le_of_lt_succ hi) with h | h
   ·exact aT i y h hy
   ·subst h; rw [hx] at hy; cases hy; exact e
  refine gO Tryz.func154 ?_;refine aF (e := .str x) (a7 hx) rfl ?_;refine gO Tryz.func154 ?_;refine ar (X5 x) ?_;refine gO Tryz.func154 ?_;cases py:Nm.label x
  ·refine bq ?_;refine gO Tryz.func154 ?_;refine aw (fun h6=>?_) (fun h6=>?_)
   ·have h6:=of_decide_eq_true h6;refine gO Tryz.func154 ?_;refine bq ?_;refine gO Tryz.func154 ?_;rw [bad (by simp [jZ,py]; omega)]
   ·have h6:=of_decide_eq_false h6;refine gO Tryz.func154 ?_;by_cases h7:x=[42]
    ·refine aI (by simpa using h7) ?_;refine gO Tryz.func154 ?_;refine aa.back (IH (k+1) ⟨by omega,good (by simp [jZ,h7]; omega)⟩ (by omega)) ?_;exact sZ
    ·refine aM (by simpa using h7) ?_;refine gO Tryz.func154 ?_;rw [bad (by simp [jZ,py,h7])]
  ·refine ba ?_;refine gO Tryz.func154 ?_;refine ba ?_;refine gO Tryz.func154 ?_;refine aa.back (IH (k+1) ⟨by omega,good (by simp [jZ,py])⟩ (by omega)) ?_;exact sZ
 ·have aP:k=L.length:=by simp at h5; omega
  subst aP;have hp:Nm.parts L=true:=px.2 ⟨X8,fun i x hx=>aT i x (List.getElem?_eq_some_iff.1 hx).1 hx⟩;have om:gL L=Nm.glue L:=by rw [gL,if_neg h0]
  have kz:=O1 hb;have c2:=c2 (by omega);clear IH;unfold oR;rw [hp,om,Bool.true_and];refine gO Tryz.func154 ?_;refine ar (c2) ?_;refine gO Tryz.func154 ?_;refine aw (fun h6=>?_) (fun h6=>?_)
  ·have h6:=of_decide_eq_true h6;refine gO Tryz.func154 ?_;rw [decide_eq_false (by omega)];rfl
  ·have h6:=of_decide_eq_false h6;refine gO Tryz.func154 ?_;rw [decide_eq_true (by omega)];rfl
theorem O2:∀ (t:Text),(∀ r,Nm.split t=[r]→Lib.indexByte t 46 = -1∧t=r)∧∀ x y r,Nm.split t=x::y::r→∃ n:Nat,Lib.indexByte t 46=n∧t.drop (n+1)=Nm.glue (y::r)∧n+1≤t.length
 | []=>by simp [Nm.split,Lib.indexByte]
 |c::t=>by
  obtain ⟨h1,h2⟩:=O2 t;by_cases hc:c=46
  ·subst hc;have e:Nm.split (46::t)=[]::Nm.split t:=by simp [Nm.split]
   have e2:Lib.indexByte (46::t) 46=0:=by simp [Lib.indexByte]
   rw [e,e2];refine ⟨fun r hr=>?_,fun x y r hr=>?_⟩
   ·have:=Nm.nC t;simp at hr;exact absurd hr.2 this
   ·simp only [List.cons.injEq] at hr;refine ⟨0,rfl,?_,by simp⟩;rw [← hr.2,Nm.uE];rfl
  ·have e2:Lib.indexByte (c::t) 46=if Lib.indexByte t 46 = -1 then -1 else Lib.indexByte t 46+1:=by
    rw [Lib.indexByte,if_neg (by simpa using hc)];simp
   cases hs:Nm.split t with
   |nil=>exact absurd hs (Nm.nC t)
   |cons h r0 =>
    have e:Nm.split (c::t)=(c::h)::r0:=by simp [Nm.split,hc,hs]
    rw [e,e2];refine ⟨fun r hr=>?_,fun x y r hr=>?_⟩
    ·simp only [List.cons.injEq] at hr;obtain ⟨rfl,rfl⟩:=hr;obtain ⟨k1,k2⟩:=h1 h hs;rw [if_pos k1];exact ⟨rfl,by rw [k2]⟩
    ·simp only [List.cons.injEq] at hr;obtain ⟨rfl,rfl⟩:=hr;obtain ⟨n,k1,k2,k3⟩:=h2 h y r hs;rw [if_neg (by omega)];exact ⟨n+1,by omega,by simpa using k2,by simp; omega⟩
theorem O3 (t:Text) (hv:Nm.valid t=true) (hr:t≠[46]):aA E 92 [.str t] (· = .aL [.str (gL (Nm.labels t).tail),.int .i64 0]):=by
 have hlen:=fF hv;have c1:=X6 t (o9 (by omega));rw [hv] at c1;have c2:=X2 t 46;have mN:Nm.labels t=Nm.split t:=by rw [Nm.labels,if_neg hr]
 obtain ⟨h1,h2⟩:=O2 t;rw [mN];refine eP Tryz.func92 ?_;refine ar (c1) ?_;refine gO Tryz.func92 ?_;refine ba ?_;refine gO Tryz.func92 ?_;refine aI (by simpa using hr) ?_;refine gO Tryz.func92 ?_;refine ar (c2) ?_;refine gO Tryz.func92 ?_;cases hs:Nm.split t with
 |nil=>exact absurd hs (Nm.nC t)
 |cons x r =>
  cases r with
  |nil =>
   obtain ⟨k1,k2⟩:=h1 x hs;refine aI (by rw [k1]; decide) ?_;refine gO Tryz.func92 ?_;rfl
  |cons y r =>
   obtain ⟨n,k1,k2,k3⟩:=h2 x y r hs;have hw:IntKind.i64.wrap (Lib.indexByte t 46+1)=((n+1:Nat):Int):=by rw [k1,wrap64 (by omega) (by omega)]; omega
   have hd:List.drop ((some (IntKind.i64.wrap (Lib.indexByte t 46+1))).getD 0).toNat (List.take ((none:Option Int).getD (t.length:Int)).toNat t)=gL (y::r):=by
    rw [hw]
    simpa [gL] using k2
   refine aM (by rw [k1]; simp) ?_;refine gO Tryz.func92 ?_;refine bQ ⟨by rw [hw]; simp; omega,by rw [hw]; simp; omega,by simp⟩ ?_;(conv=>whnf);rw [hd];refine gO Tryz.func92 ?_;rfl
end Go.Proofs.YtcmnpelmmekdkaaGreatDoor.P
end
