/- Several texts of mine, one behind the other. Conditions: as each says. -/
import Derived.Test.YtfmdaiojokniiaaGreatDoorY37
set_option linter.unusedVariables false
set_option linter.unusedSimpArgs false
namespace Go.Proofs.YtfmdaiojokniiaaGreatDoor.P
open Go Go.ax
set_option maxRecDepth 100000
set_option maxHeartbeats 4000000
theorem UU {s:cP} (h:ev s=true) (ht:s.type=2):∀ d∈s.data,Nm.valid d.text=true:=fun d hd=>by
 simp only [ev,Bool.and_eq_true] at h;have:=Dc h.2 d hd;rw [ht] at this;simp only [iS,Bool.and_eq_true] at this;have:=this.2;simp [lj,eO] at this;exact this.1
def fj (l:List Signed) (c:Text) (D:List Datum):List Int:=(D.filter fun d=>Nm.under d.text c).map fun d=>aU l ⟨d.text,1⟩
theorem uW {l:List Signed} {c:Text} {D:List Datum} {k:Nat} {d:Datum} (h:D[k]? = some d):fj l c (D.take (k+1))=fj l c (D.take k)++(if Nm.under d.text c then [aU l ⟨d.text,1⟩] else []):=by
 rw [cQ h];unfold fj;rw [List.filter_append,List.map_append];cases e:Nm.under d.text c <;> simp [e]
theorem sK (l:List Signed) (c:Text) (D:List Datum):(fj l c D).length≤D.length:=by
 unfold fj;rw [List.length_map];exact List.length_filter_le _ _
theorem uX {l:List Signed} {c:Text} {D:List Datum} {p:Int} (h:p∈fj l c D):p<l.length:=by
 simp only [fj,List.mem_map] at h;obtain ⟨d,-,rfl⟩:=h;exact fP.2
def mv (q:bw) (cut:Text) (b:Bool):Bool := !b||(decide (q.name=cut)&&(decide (q.type=6)||decide (q.type=8)))
theorem UW (z:aR) (q:bw) (cut:Text) (b:Bool) (w:Text) (hb:mv q cut b=true):aw E 157 [bq z q cut b w,bh z] [.ptr 0 0] (fun x h=>x = .aF [.d EJ,.d (.bool false)]∧h=[bq z q cut b w,bh z]):=by
 apply aw.lz
 case hk=>rfl
 case hc =>
  unfold bq bh;by_cases h6:q.type=6
  ·refine aw.run af (fn:=Tryz.f157) Tryz.func157 (body:=Tryz.f157.body.getD .skip) rfl (by decide) 2000 rfl ?_;(conv=>whnf);refine aV (by simpa using h6) ?_;refine gO Tryz.func157 ?_;cases b
   ·refine I.bH af bI 2000 (by kernel_rfl) ?_;(conv=>whnf);refine aY ?_;refine gD ?_;refine gO Tryz.func157 ?_;refine aY ?_;refine gO Tryz.func157 ?_;exact ⟨rfl,rfl⟩
   ·have hn:q.name=cut:=by simpa [mv,h6] using hb
    refine I.bH af bI 2000 (by kernel_rfl) ?_;(conv=>whnf);refine aQ ?_;refine gD ?_;refine aV (by simpa using hn) ?_;refine gD ?_;refine gO Tryz.func157 ?_;refine aY ?_;refine gO Tryz.func157 ?_;exact ⟨rfl,rfl⟩
  ·refine aw.run af (fn:=Tryz.f157) Tryz.func157 (body:=Tryz.f157.body.getD .skip) rfl (by decide) 2000 rfl ?_;(conv=>whnf);refine aW (by simpa using h6) ?_;refine gO Tryz.func157 ?_;cases b
   ·refine I.bH af bI 2000 (by kernel_rfl) ?_;(conv=>whnf);refine aY ?_;refine gD ?_;refine gO Tryz.func157 ?_;refine aY ?_;refine gO Tryz.func157 ?_;exact ⟨rfl,rfl⟩
   ·have hn:q.name=cut∧q.type=8:=by simpa [mv,h6] using hb
    refine I.bH af bI 2000 (by kernel_rfl) ?_;(conv=>whnf);refine aQ ?_;refine gD ?_;refine aV (by simpa using hn.1) ?_;refine gD ?_;refine gO Tryz.func157 ?_;refine aV (by simpa using hn.2) ?_;refine gO Tryz.func157 ?_;exact ⟨rfl,rfl⟩
theorem UX (z:aR) (q:bw) (cut:Text) (w:Text) (V:gv z) (hf:z.jW) (hc:Nm.valid cut=true) (h2:0≤aU z.ab ⟨cut,2⟩) (hb:mv q cut true=false):aw E 157 [bq z q cut true w,bh z] [.ptr 0 0] (fun x h=>x = .aF [.d (nd 4 (dV z.ab (ka z.ab cut)) cut),.d (.bool true)]∧h=[bq z q cut true w,bh z]):=by
 have p2:=pt z q cut true w cut 2 V.sorted;have p6:=pt z q cut true w cut 6 V.sorted;have p8:=pt z q cut true w cut 8 V.sorted;have p1:=fun n=>pt z q cut true w n 1 V.sorted;have nh:=(fP (l:=z.ab) (q:=⟨cut,2⟩)).2;obtain ⟨s,hs,ib⟩:=Ex h2;have jo:=UU (V.ab s (List.mem_of_getElem? hs)) (congrArg bw.type (Ey ib)).symm;have Wq:=(zC (V.ab s (List.mem_of_getElem? hs))).2.1;have Wr:=sK z.ab cut s.set.data;have ju:EB z.ab cut=s.set.data:=by rw [EB,hs]
 unfold bq bh at p2 p6 p8 p1;apply aw.lz
 case hk=>rfl
 case hc =>
  unfold bq bh;by_cases h6:q.type=6
  ·have hn:q.name≠cut:=fun e=>by simp [mv,h6,e] at hb
   refine aw.run af (fn:=Tryz.f157) Tryz.func157 (body:=Tryz.f157.body.getD .skip) rfl (by decide) 2000 rfl ?_;(conv=>whnf);refine aV (by simpa using h6) ?_;refine gO Tryz.func157 ?_;refine I.bH af bI 2000 (by kernel_rfl) ?_;(conv=>whnf);refine aQ ?_;refine gD ?_;refine aW (by simpa using hn) ?_;refine gD ?_;refine gO Tryz.func157 ?_;refine aQ ?_;refine gO Tryz.func157 ?_
   with_reducible refine bF (p2) ?_
   refine gO Tryz.func157 ?_;by_cases ai:aU z.ab ⟨cut,6⟩<0
   ·with_reducible refine bF (p6) ?_
    refine gO Tryz.func157 ?_;refine aV (decide_eq_true ai) ?_;refine gO Tryz.func157 ?_
    with_reducible refine bF p8 ?_
    (conv=>whnf);refine I.run af Tryz.func157 6 ?_;have nf:ka z.ab cut=cF (aU z.ab ⟨cut,2⟩::aU z.ab ⟨cut,8⟩::fj z.ab cut s.set.data):=by
     rw [ka,sF,if_pos ai,sG,ju];rfl
    have c4:=kJ z q cut true w 4 (aU z.ab ⟨cut,2⟩::aU z.ab ⟨cut,8⟩::fj z.ab cut s.set.data) hf (fun p hp=>by
     rcases List.mem_cons.1 hp with rfl | hp
     ·exact fP.2
     rcases List.mem_cons.1 hp with rfl | hp
     ·exact fP.2
     exact uX hp) (by simp; omega)
    unfold bq bh at c4;(conv=>whnf);refine I.oM af rfl ?_;refine gO Tryz.func157 ?_;refine aB (e:=s.enc) ⟨h2,by rw [List.getElem?_map,hs]; rfl⟩ rfl ?_;refine gO Tryz.func157 ?_;refine I.loop (κ:=Nat) ([7,9]++rg 79 19) (fun k=>[(79,.d (.int .i64 k)),(7,.own 3 1)]) (fun k=>[(3,.arr 1 (3,1) ((aU z.ab ⟨cut,2⟩::aU z.ab ⟨cut,8⟩::fj z.ab cut (s.set.data.take k)).map (.int .i64)))]) (fun k=>k≤s.set.data.length) (fun k=>s.set.data.length - k) 0 (Nat.zero_le _) ?_ ?_
    ·(conv=>whnf);repeat (first | exact trivial | (refine sI ?_; conv=>whnf))
     refine And.intro rfl ?_;exact sZ
    intro k hk IH;have iK:=sK z.ab cut (s.set.data.take k);rw [List.length_take] at iK;refine I.head af Tryz.func157 2000 ?_;(conv=>whnf);refine ah (fun h5=>?_) (fun h5=>?_)
    ·have ng:k<s.set.data.length:=by simpa using h5
     obtain ⟨d,hd⟩:=aD ng;have c2:=sH d.text cut (jo d (List.mem_of_getElem? hd)) hc;have p1:=p1 d.text;have ey:=uW (l:=z.ab) (c:=cut) hd;refine gO Tryz.func157 ?_;refine aB (e:=d.enc) (aN hd) rfl ?_;refine gO Tryz.func157 ?_;refine I.bH af bI 2000 (by kernel_rfl) ?_;(conv=>whnf);refine au (c2) ?_;refine gD ?_;refine gO Tryz.func157 ?_;cases hu:Nm.under d.text cut
     ·rw [hu,if_neg (by decide),List.append_nil] at ey;refine aQ ?_;refine gO Tryz.func157 ?_;refine I.back (IH (k+1) (by omega) (by omega)) ?_;rw [ey];exact sZ
     ·rw [hu,if_pos rfl] at ey;refine aY ?_;refine gO Tryz.func157 ?_
      with_reducible refine bF (p1) ?_
      refine gO Tryz.func157 ?_;refine bc ⟨by simp; omega,by simp [DV.cells]⟩ ?_;refine gO Tryz.func157 ?_;refine I.back (IH (k+1) (by omega) (by omega)) ?_;rw [ey];(conv=>whnf);repeat (first | exact trivial | (refine sI ?_; conv=>whnf))
      refine And.intro (by simp) ?_;exact sZ
    ·have aC:s.set.data.length≤k:=by simpa using h5
     rw [List.take_of_length_le aC];(conv=>whnf);refine I.freeze 3 ?_;(conv=>whnf);refine gO Tryz.func157 ?_
     with_reducible refine bF (c4) ?_
     refine gO Tryz.func157 ?_;rw [nf];exact ⟨rfl,rfl⟩
   ·with_reducible refine bF (p6) ?_
    refine gO Tryz.func157 ?_;refine aW (decide_eq_false ai) ?_;(conv=>whnf);refine I.run af Tryz.func157 5 ?_;have nf:ka z.ab cut=cF (aU z.ab ⟨cut,2⟩::aU z.ab ⟨cut,6⟩::fj z.ab cut s.set.data):=by
     rw [ka,sF,if_neg ai,sG,ju];rfl
    have c4:=kJ z q cut true w 4 (aU z.ab ⟨cut,2⟩::aU z.ab ⟨cut,6⟩::fj z.ab cut s.set.data) hf (fun p hp=>by
     rcases List.mem_cons.1 hp with rfl | hp
     ·exact fP.2
     rcases List.mem_cons.1 hp with rfl | hp
     ·exact fP.2
     exact uX hp) (by simp; omega)
    unfold bq bh at c4;(conv=>whnf);refine I.oM af rfl ?_;refine gO Tryz.func157 ?_;refine aB (e:=s.enc) ⟨h2,by rw [List.getElem?_map,hs]; rfl⟩ rfl ?_;refine gO Tryz.func157 ?_;refine I.loop (κ:=Nat) ([7,9]++rg 79 19) (fun k=>[(79,.d (.int .i64 k)),(7,.own 3 1)]) (fun k=>[(3,.arr 1 (3,1) ((aU z.ab ⟨cut,2⟩::aU z.ab ⟨cut,6⟩::fj z.ab cut (s.set.data.take k)).map (.int .i64)))]) (fun k=>k≤s.set.data.length) (fun k=>s.set.data.length - k) 0 (Nat.zero_le _) ?_ ?_
    ·(conv=>whnf);repeat (first | exact trivial | (refine sI ?_; conv=>whnf))
     refine And.intro rfl ?_;exact sZ
    intro k hk IH;have iK:=sK z.ab cut (s.set.data.take k);rw [List.length_take] at iK;refine I.head af Tryz.func157 2000 ?_;(conv=>whnf);refine ah (fun h5=>?_) (fun h5=>?_)
    ·have ng:k<s.set.data.length:=by simpa using h5
     obtain ⟨d,hd⟩:=aD ng;have c2:=sH d.text cut (jo d (List.mem_of_getElem? hd)) hc;have p1:=p1 d.text;have ey:=uW (l:=z.ab) (c:=cut) hd;refine gO Tryz.func157 ?_;refine aB (e:=d.enc) (aN hd) rfl ?_;refine gO Tryz.func157 ?_;refine I.bH af bI 2000 (by kernel_rfl) ?_;(conv=>whnf);refine au (c2) ?_;refine gD ?_;refine gO Tryz.func157 ?_;cases hu:Nm.under d.text cut
     ·rw [hu,if_neg (by decide),List.append_nil] at ey;refine aQ ?_;refine gO Tryz.func157 ?_;refine I.back (IH (k+1) (by omega) (by omega)) ?_;rw [ey];exact sZ
     ·rw [hu,if_pos rfl] at ey;refine aY ?_;refine gO Tryz.func157 ?_
      with_reducible refine bF (p1) ?_
      refine gO Tryz.func157 ?_;refine bc ⟨by simp; omega,by simp [DV.cells]⟩ ?_;refine gO Tryz.func157 ?_;refine I.back (IH (k+1) (by omega) (by omega)) ?_;rw [ey];(conv=>whnf);repeat (first | exact trivial | (refine sI ?_; conv=>whnf))
      refine And.intro (by simp) ?_;exact sZ
    ·have aC:s.set.data.length≤k:=by simpa using h5
     rw [List.take_of_length_le aC];(conv=>whnf);refine I.freeze 3 ?_;(conv=>whnf);refine gO Tryz.func157 ?_
     with_reducible refine bF (c4) ?_
     refine gO Tryz.func157 ?_;rw [nf];exact ⟨rfl,rfl⟩
  ·by_cases hn:q.name=cut
   ·have h8:q.type≠8:=fun e=>by simp [mv,hn,e] at hb
    refine aw.run af (fn:=Tryz.f157) Tryz.func157 (body:=Tryz.f157.body.getD .skip) rfl (by decide) 2000 rfl ?_;(conv=>whnf);refine aW (by simpa using h6) ?_;refine gO Tryz.func157 ?_;refine I.bH af bI 2000 (by kernel_rfl) ?_;(conv=>whnf);refine aQ ?_;refine gD ?_;refine aV (by simpa using hn) ?_;refine gD ?_;refine gO Tryz.func157 ?_;refine aW (by simpa using h8) ?_;refine gO Tryz.func157 ?_
    with_reducible refine bF (p2) ?_
    refine gO Tryz.func157 ?_;by_cases ai:aU z.ab ⟨cut,6⟩<0
    ·with_reducible refine bF (p6) ?_
     refine gO Tryz.func157 ?_;refine aV (decide_eq_true ai) ?_;refine gO Tryz.func157 ?_
     with_reducible refine bF p8 ?_
     (conv=>whnf);refine I.run af Tryz.func157 6 ?_;have nf:ka z.ab cut=cF (aU z.ab ⟨cut,2⟩::aU z.ab ⟨cut,8⟩::fj z.ab cut s.set.data):=by
      rw [ka,sF,if_pos ai,sG,ju];rfl
     have c4:=kJ z q cut true w 4 (aU z.ab ⟨cut,2⟩::aU z.ab ⟨cut,8⟩::fj z.ab cut s.set.data) hf (fun p hp=>by
      rcases List.mem_cons.1 hp with rfl | hp
      ·exact fP.2
      rcases List.mem_cons.1 hp with rfl | hp
      ·exact fP.2
      exact uX hp) (by simp; omega)
     unfold bq bh at c4;(conv=>whnf);refine I.oM af rfl ?_;refine gO Tryz.func157 ?_;refine aB (e:=s.enc) ⟨h2,by rw [List.getElem?_map,hs]; rfl⟩ rfl ?_;refine gO Tryz.func157 ?_;refine I.loop (κ:=Nat) ([7,9]++rg 79 19) (fun k=>[(79,.d (.int .i64 k)),(7,.own 3 1)]) (fun k=>[(3,.arr 1 (3,1) ((aU z.ab ⟨cut,2⟩::aU z.ab ⟨cut,8⟩::fj z.ab cut (s.set.data.take k)).map (.int .i64)))]) (fun k=>k≤s.set.data.length) (fun k=>s.set.data.length - k) 0 (Nat.zero_le _) ?_ ?_
     ·(conv=>whnf);repeat (first | exact trivial | (refine sI ?_; conv=>whnf))
      refine And.intro rfl ?_;exact sZ
     intro k hk IH;have iK:=sK z.ab cut (s.set.data.take k);rw [List.length_take] at iK;refine I.head af Tryz.func157 2000 ?_;(conv=>whnf);refine ah (fun h5=>?_) (fun h5=>?_)
     ·have ng:k<s.set.data.length:=by simpa using h5
      obtain ⟨d,hd⟩:=aD ng;have c2:=sH d.text cut (jo d (List.mem_of_getElem? hd)) hc;have p1:=p1 d.text;have ey:=uW (l:=z.ab) (c:=cut) hd;refine gO Tryz.func157 ?_;refine aB (e:=d.enc) (aN hd) rfl ?_;refine gO Tryz.func157 ?_;refine I.bH af bI 2000 (by kernel_rfl) ?_;(conv=>whnf);refine au (c2) ?_;refine gD ?_;refine gO Tryz.func157 ?_;cases hu:Nm.under d.text cut
      ·rw [hu,if_neg (by decide),List.append_nil] at ey;refine aQ ?_;refine gO Tryz.func157 ?_;refine I.back (IH (k+1) (by omega) (by omega)) ?_;rw [ey];exact sZ
      ·rw [hu,if_pos rfl] at ey;refine aY ?_;refine gO Tryz.func157 ?_
       with_reducible refine bF (p1) ?_
       refine gO Tryz.func157 ?_;refine bc ⟨by simp; omega,by simp [DV.cells]⟩ ?_;refine gO Tryz.func157 ?_;refine I.back (IH (k+1) (by omega) (by omega)) ?_;rw [ey];(conv=>whnf);repeat (first | exact trivial | (refine sI ?_; conv=>whnf))
       refine And.intro (by simp) ?_;exact sZ
     ·have aC:s.set.data.length≤k:=by simpa using h5
      rw [List.take_of_length_le aC];(conv=>whnf);refine I.freeze 3 ?_;(conv=>whnf);refine gO Tryz.func157 ?_
      with_reducible refine bF (c4) ?_
      refine gO Tryz.func157 ?_;rw [nf];exact ⟨rfl,rfl⟩
    ·with_reducible refine bF (p6) ?_
     refine gO Tryz.func157 ?_;refine aW (decide_eq_false ai) ?_;(conv=>whnf);refine I.run af Tryz.func157 5 ?_;have nf:ka z.ab cut=cF (aU z.ab ⟨cut,2⟩::aU z.ab ⟨cut,6⟩::fj z.ab cut s.set.data):=by
      rw [ka,sF,if_neg ai,sG,ju];rfl
     have c4:=kJ z q cut true w 4 (aU z.ab ⟨cut,2⟩::aU z.ab ⟨cut,6⟩::fj z.ab cut s.set.data) hf (fun p hp=>by
      rcases List.mem_cons.1 hp with rfl | hp
      ·exact fP.2
      rcases List.mem_cons.1 hp with rfl | hp
      ·exact fP.2
      exact uX hp) (by simp; omega)
     unfold bq bh at c4;(conv=>whnf);refine I.oM af rfl ?_;refine gO Tryz.func157 ?_;refine aB (e:=s.enc) ⟨h2,by rw [List.getElem?_map,hs]; rfl⟩ rfl ?_;refine gO Tryz.func157 ?_;refine I.loop (κ:=Nat) ([7,9]++rg 79 19) (fun k=>[(79,.d (.int .i64 k)),(7,.own 3 1)]) (fun k=>[(3,.arr 1 (3,1) ((aU z.ab ⟨cut,2⟩::aU z.ab ⟨cut,6⟩::fj z.ab cut (s.set.data.take k)).map (.int .i64)))]) (fun k=>k≤s.set.data.length) (fun k=>s.set.data.length - k) 0 (Nat.zero_le _) ?_ ?_
     ·(conv=>whnf);repeat (first | exact trivial | (refine sI ?_; conv=>whnf))
      refine And.intro rfl ?_;exact sZ
     intro k hk IH;have iK:=sK z.ab cut (s.set.data.take k);rw [List.length_take] at iK;refine I.head af Tryz.func157 2000 ?_;(conv=>whnf);refine ah (fun h5=>?_) (fun h5=>?_)
     ·have ng:k<s.set.data.length:=by simpa using h5
      obtain ⟨d,hd⟩:=aD ng;have c2:=sH d.text cut (jo d (List.mem_of_getElem? hd)) hc;have p1:=p1 d.text;have ey:=uW (l:=z.ab) (c:=cut) hd;refine gO Tryz.func157 ?_;refine aB (e:=d.enc) (aN hd) rfl ?_;refine gO Tryz.func157 ?_;refine I.bH af bI 2000 (by kernel_rfl) ?_;(conv=>whnf);refine au (c2) ?_;refine gD ?_;refine gO Tryz.func157 ?_;cases hu:Nm.under d.text cut
      ·rw [hu,if_neg (by decide),List.append_nil] at ey;refine aQ ?_;refine gO Tryz.func157 ?_;refine I.back (IH (k+1) (by omega) (by omega)) ?_;rw [ey];exact sZ
      ·rw [hu,if_pos rfl] at ey;refine aY ?_;refine gO Tryz.func157 ?_
       with_reducible refine bF (p1) ?_
       refine gO Tryz.func157 ?_;refine bc ⟨by simp; omega,by simp [DV.cells]⟩ ?_;refine gO Tryz.func157 ?_;refine I.back (IH (k+1) (by omega) (by omega)) ?_;rw [ey];(conv=>whnf);repeat (first | exact trivial | (refine sI ?_; conv=>whnf))
       refine And.intro (by simp) ?_;exact sZ
     ·have aC:s.set.data.length≤k:=by simpa using h5
      rw [List.take_of_length_le aC];(conv=>whnf);refine I.freeze 3 ?_;(conv=>whnf);refine gO Tryz.func157 ?_
      with_reducible refine bF (c4) ?_
      refine gO Tryz.func157 ?_;rw [nf];exact ⟨rfl,rfl⟩
   ·refine aw.run af (fn:=Tryz.f157) Tryz.func157 (body:=Tryz.f157.body.getD .skip) rfl (by decide) 2000 rfl ?_;(conv=>whnf);refine aW (by simpa using h6) ?_;refine gO Tryz.func157 ?_;refine I.bH af bI 2000 (by kernel_rfl) ?_;(conv=>whnf);refine aQ ?_;refine gD ?_;refine aW (by simpa using hn) ?_;refine gD ?_;refine gO Tryz.func157 ?_;refine aQ ?_;refine gO Tryz.func157 ?_
    with_reducible refine bF (p2) ?_
    refine gO Tryz.func157 ?_;by_cases ai:aU z.ab ⟨cut,6⟩<0
    ·with_reducible refine bF (p6) ?_
     refine gO Tryz.func157 ?_;refine aV (decide_eq_true ai) ?_;refine gO Tryz.func157 ?_
     with_reducible refine bF p8 ?_
     (conv=>whnf);refine I.run af Tryz.func157 6 ?_;have nf:ka z.ab cut=cF (aU z.ab ⟨cut,2⟩::aU z.ab ⟨cut,8⟩::fj z.ab cut s.set.data):=by
      rw [ka,sF,if_pos ai,sG,ju];rfl
     have c4:=kJ z q cut true w 4 (aU z.ab ⟨cut,2⟩::aU z.ab ⟨cut,8⟩::fj z.ab cut s.set.data) hf (fun p hp=>by
      rcases List.mem_cons.1 hp with rfl | hp
      ·exact fP.2
      rcases List.mem_cons.1 hp with rfl | hp
      ·exact fP.2
      exact uX hp) (by simp; omega)
     unfold bq bh at c4;(conv=>whnf);refine I.oM af rfl ?_;refine gO Tryz.func157 ?_;refine aB (e:=s.enc) ⟨h2,by rw [List.getElem?_map,hs]; rfl⟩ rfl ?_;refine gO Tryz.func157 ?_;refine I.loop (κ:=Nat) ([7,9]++rg 79 19) (fun k=>[(79,.d (.int .i64 k)),(7,.own 3 1)]) (fun k=>[(3,.arr 1 (3,1) ((aU z.ab ⟨cut,2⟩::aU z.ab ⟨cut,8⟩::fj z.ab cut (s.set.data.take k)).map (.int .i64)))]) (fun k=>k≤s.set.data.length) (fun k=>s.set.data.length - k) 0 (Nat.zero_le _) ?_ ?_
     ·(conv=>whnf);repeat (first | exact trivial | (refine sI ?_; conv=>whnf))
      refine And.intro rfl ?_;exact sZ
     intro k hk IH;have iK:=sK z.ab cut (s.set.data.take k);rw [List.length_take] at iK;refine I.head af Tryz.func157 2000 ?_;(conv=>whnf);refine ah (fun h5=>?_) (fun h5=>?_)
     ·have ng:k<s.set.data.length:=by simpa using h5
      obtain ⟨d,hd⟩:=aD ng;have c2:=sH d.text cut (jo d (List.mem_of_getElem? hd)) hc;have p1:=p1 d.text;have ey:=uW (l:=z.ab) (c:=cut) hd;refine gO Tryz.func157 ?_;refine aB (e:=d.enc) (aN hd) rfl ?_;refine gO Tryz.func157 ?_;refine I.bH af bI 2000 (by kernel_rfl) ?_;(conv=>whnf);refine au (c2) ?_;refine gD ?_;refine gO Tryz.func157 ?_;cases hu:Nm.under d.text cut
      ·rw [hu,if_neg (by decide),List.append_nil] at ey;refine aQ ?_;refine gO Tryz.func157 ?_;refine I.back (IH (k+1) (by omega) (by omega)) ?_;rw [ey];exact sZ
      ·rw [hu,if_pos rfl] at ey;refine aY ?_;refine gO Tryz.func157 ?_
       with_reducible refine bF (p1) ?_
       refine gO Tryz.func157 ?_;refine bc ⟨by simp; omega,by simp [DV.cells]⟩ ?_;refine gO Tryz.func157 ?_;refine I.back (IH (k+1) (by omega) (by omega)) ?_;rw [ey];(conv=>whnf);repeat (first | exact trivial | (refine sI ?_; conv=>whnf))
       refine And.intro (by simp) ?_;exact sZ
     ·have aC:s.set.data.length≤k:=by simpa using h5
      rw [List.take_of_length_le aC];(conv=>whnf);refine I.freeze 3 ?_;(conv=>whnf);refine gO Tryz.func157 ?_
      with_reducible refine bF (c4) ?_
      refine gO Tryz.func157 ?_;rw [nf];exact ⟨rfl,rfl⟩
    ·with_reducible refine bF (p6) ?_
     refine gO Tryz.func157 ?_;refine aW (decide_eq_false ai) ?_;(conv=>whnf);refine I.run af Tryz.func157 5 ?_;have nf:ka z.ab cut=cF (aU z.ab ⟨cut,2⟩::aU z.ab ⟨cut,6⟩::fj z.ab cut s.set.data):=by
      rw [ka,sF,if_neg ai,sG,ju];rfl
     have c4:=kJ z q cut true w 4 (aU z.ab ⟨cut,2⟩::aU z.ab ⟨cut,6⟩::fj z.ab cut s.set.data) hf (fun p hp=>by
      rcases List.mem_cons.1 hp with rfl | hp
      ·exact fP.2
      rcases List.mem_cons.1 hp with rfl | hp
      ·exact fP.2
      exact uX hp) (by simp; omega)
     unfold bq bh at c4;(conv=>whnf);refine I.oM af rfl ?_;refine gO Tryz.func157 ?_;refine aB (e:=s.enc) ⟨h2,by rw [List.getElem?_map,hs]; rfl⟩ rfl ?_;refine gO Tryz.func157 ?_;refine I.loop (κ:=Nat) ([7,9]++rg 79 19) (fun k=>[(79,.d (.int .i64 k)),(7,.own 3 1)]) (fun k=>[(3,.arr 1 (3,1) ((aU z.ab ⟨cut,2⟩::aU z.ab ⟨cut,6⟩::fj z.ab cut (s.set.data.take k)).map (.int .i64)))]) (fun k=>k≤s.set.data.length) (fun k=>s.set.data.length - k) 0 (Nat.zero_le _) ?_ ?_
     ·(conv=>whnf);repeat (first | exact trivial | (refine sI ?_; conv=>whnf))
      refine And.intro rfl ?_;exact sZ
     intro k hk IH;have iK:=sK z.ab cut (s.set.data.take k);rw [List.length_take] at iK;refine I.head af Tryz.func157 2000 ?_;(conv=>whnf);refine ah (fun h5=>?_) (fun h5=>?_)
     ·have ng:k<s.set.data.length:=by simpa using h5
      obtain ⟨d,hd⟩:=aD ng;have c2:=sH d.text cut (jo d (List.mem_of_getElem? hd)) hc;have p1:=p1 d.text;have ey:=uW (l:=z.ab) (c:=cut) hd;refine gO Tryz.func157 ?_;refine aB (e:=d.enc) (aN hd) rfl ?_;refine gO Tryz.func157 ?_;refine I.bH af bI 2000 (by kernel_rfl) ?_;(conv=>whnf);refine au (c2) ?_;refine gD ?_;refine gO Tryz.func157 ?_;cases hu:Nm.under d.text cut
      ·rw [hu,if_neg (by decide),List.append_nil] at ey;refine aQ ?_;refine gO Tryz.func157 ?_;refine I.back (IH (k+1) (by omega) (by omega)) ?_;rw [ey];exact sZ
      ·rw [hu,if_pos rfl] at ey;refine aY ?_;refine gO Tryz.func157 ?_
       with_reducible refine bF (p1) ?_
       refine gO Tryz.func157 ?_;refine bc ⟨by simp; omega,by simp [DV.cells]⟩ ?_;refine gO Tryz.func157 ?_;refine I.back (IH (k+1) (by omega) (by omega)) ?_;rw [ey];(conv=>whnf);repeat (first | exact trivial | (refine sI ?_; conv=>whnf))
       refine And.intro (by simp) ?_;exact sZ
     ·have aC:s.set.data.length≤k:=by simpa using h5
      rw [List.take_of_length_le aC];(conv=>whnf);refine I.freeze 3 ?_;(conv=>whnf);refine gO Tryz.func157 ?_
      with_reducible refine bF (c4) ?_
      refine gO Tryz.func157 ?_;rw [nf];exact ⟨rfl,rfl⟩
end Go.Proofs.YtfmdaiojokniiaaGreatDoor.P
