/- Several texts of mine, one behind the other. Conditions: as each says. -/
import Derived.Test.YtfmdaiojokniiaaGreatDoorV39
set_option linter.unusedVariables false
set_option linter.unusedSimpArgs false
namespace Go.Proofs.YtfmdaiojokniiaaGreatDoor.P
open Go Go.aw
set_option maxRecDepth 100000
set_option maxHeartbeats 4000000
theorem Ve {s:cS} (h:ez s=true) (ht:s.type=2):∀ d∈s.data,Nm.valid d.text=true:=fun d hd=>by
 simp only [ez,Bool.and_eq_true] at h;have:=DH h.2 d hd;rw [ht] at this;simp only [jb,Bool.and_eq_true] at this;have:=this.2;simp [lK,eW] at this;exact this.1
def fw (l:List Signed) (c:Text) (D:List Datum):List Int:=(D.filter fun d=>Nm.under d.text c).map fun d=>aU l ⟨d.text,1⟩
theorem vw {l:List Signed} {c:Text} {D:List Datum} {k:Nat} {d:Datum} (h:D[k]? = some d):fw l c (D.take (k+1))=fw l c (D.take k)++(if Nm.under d.text c then [aU l ⟨d.text,1⟩] else []):=by
 rw [cI h];unfold fw;rw [List.filter_append,List.map_append];cases e:Nm.under d.text c <;> simp [e]
theorem te (l:List Signed) (c:Text) (D:List Datum):(fw l c D).length≤D.length:=by
 unfold fw;rw [List.length_map];exact List.length_filter_le _ _
theorem vx {l:List Signed} {c:Text} {D:List Datum} {p:Int} (h:p∈fw l c D):p<l.length:=by
 simp only [fw,List.mem_map] at h;obtain ⟨d,-,rfl⟩:=h;exact fX.2
def mP (q:bj) (cut:Text) (b:Bool):Bool := !b||(decide (q.name=cut)&&(decide (q.type=6)||decide (q.type=8)))
theorem Vf (z:aG) (q:bj) (cut:Text) (b:Bool) (w:Text) (hb:mP q cut b=true):au E 157 [bw z q cut b w,bg z] [.ptr 0 0] (fun x h=>x = .aD [.d E',.d (.bool false)]∧h=[bw z q cut b w,bg z]):=by
 apply au.kf
 case hk=>rfl
 case hc =>
  unfold bw bg;by_cases h6:q.type=6
  ·refine au.run af (fn:=Tryz.f157) Tryz.func157 (body:=Tryz.f157.body.getD .skip) rfl (by decide) 2000 rfl ?_;(conv=>whnf);refine bh (by simpa using h6) ?_;refine gO Tryz.func157 ?_;cases b
   ·refine I.bH af bI 2000 (by kernel_rfl) ?_;(conv=>whnf);refine aV ?_;refine gD ?_;refine gO Tryz.func157 ?_;refine aV ?_;refine gO Tryz.func157 ?_;exact ⟨rfl,rfl⟩
   ·have hn:q.name=cut:=by simpa [mP,h6] using hb
    refine I.bH af bI 2000 (by kernel_rfl) ?_;(conv=>whnf);refine aQ ?_;refine gD ?_;refine bh (by simpa using hn) ?_;refine gD ?_;refine gO Tryz.func157 ?_;refine aV ?_;refine gO Tryz.func157 ?_;exact ⟨rfl,rfl⟩
  ·refine au.run af (fn:=Tryz.f157) Tryz.func157 (body:=Tryz.f157.body.getD .skip) rfl (by decide) 2000 rfl ?_;(conv=>whnf);refine aZ (by simpa using h6) ?_;refine gO Tryz.func157 ?_;cases b
   ·refine I.bH af bI 2000 (by kernel_rfl) ?_;(conv=>whnf);refine aV ?_;refine gD ?_;refine gO Tryz.func157 ?_;refine aV ?_;refine gO Tryz.func157 ?_;exact ⟨rfl,rfl⟩
   ·have hn:q.name=cut∧q.type=8:=by simpa [mP,h6] using hb
    refine I.bH af bI 2000 (by kernel_rfl) ?_;(conv=>whnf);refine aQ ?_;refine gD ?_;refine bh (by simpa using hn.1) ?_;refine gD ?_;refine gO Tryz.func157 ?_;refine bh (by simpa using hn.2) ?_;refine gO Tryz.func157 ?_;exact ⟨rfl,rfl⟩
theorem Vg (z:aG) (q:bj) (cut:Text) (w:Text) (V:gM z) (hf:z.jG) (hc:Nm.valid cut=true) (h2:0≤aU z.ab ⟨cut,2⟩) (hb:mP q cut true=false):au E 157 [bw z q cut true w,bg z] [.ptr 0 0] (fun x h=>x = .aD [.d (nJ 4 (dq z.ab (ki z.ab cut)) cut),.d (.bool true)]∧h=[bw z q cut true w,bg z]):=by
 have p2:=pQ z q cut true w cut 2 V.sorted;have p6:=pQ z q cut true w cut 6 V.sorted;have p8:=pQ z q cut true w cut 8 V.sorted;have p1:=fun n=>pQ z q cut true w n 1 V.sorted;have nO:=(fX (l:=z.ab) (q:=⟨cut,2⟩)).2;obtain ⟨s,hs,ir⟩:=EZ h2;have jw:=Ve (V.ab s (List.mem_of_getElem? hs)) (congrArg bj.type (E0 ir)).symm;have XP:=(xz (V.ab s (List.mem_of_getElem? hs))).2.1;have XQ:=te z.ab cut s.set.data;have jD:ym z.ab cut=s.set.data:=by rw [ym,hs]
 unfold bw bg at p2 p6 p8 p1;apply au.kf
 case hk=>rfl
 case hc =>
  unfold bw bg;by_cases h6:q.type=6
  ·have hn:q.name≠cut:=fun e=>by simp [mP,h6,e] at hb
   refine au.run af (fn:=Tryz.f157) Tryz.func157 (body:=Tryz.f157.body.getD .skip) rfl (by decide) 2000 rfl ?_;(conv=>whnf);refine bh (by simpa using h6) ?_;refine gO Tryz.func157 ?_;refine I.bH af bI 2000 (by kernel_rfl) ?_;(conv=>whnf);refine aQ ?_;refine gD ?_;refine aZ (by simpa using hn) ?_;refine gD ?_;refine gO Tryz.func157 ?_;refine aQ ?_;refine gO Tryz.func157 ?_
   with_reducible refine bD (p2) ?_
   refine gO Tryz.func157 ?_;by_cases aj:aU z.ab ⟨cut,6⟩<0
   ·with_reducible refine bD (p6) ?_
    refine gO Tryz.func157 ?_;refine bh (decide_eq_true aj) ?_;refine gO Tryz.func157 ?_
    with_reducible refine bD p8 ?_
    (conv=>whnf);refine I.run af Tryz.func157 6 ?_;have nK:ki z.ab cut=cA (aU z.ab ⟨cut,2⟩::aU z.ab ⟨cut,8⟩::fw z.ab cut s.set.data):=by
     rw [ki,rj,if_pos aj,oH,jD];rfl
    have c4:=kY z q cut true w 4 (aU z.ab ⟨cut,2⟩::aU z.ab ⟨cut,8⟩::fw z.ab cut s.set.data) hf (fun p hp=>by
     rcases List.mem_cons.1 hp with rfl | hp
     ·exact fX.2
     rcases List.mem_cons.1 hp with rfl | hp
     ·exact fX.2
     exact vx hp) (by simp; omega)
    unfold bw bg at c4;(conv=>whnf);refine I.pf af rfl ?_;refine gO Tryz.func157 ?_;refine aE (e:=s.enc) ⟨h2,by rw [List.getElem?_map,hs]; rfl⟩ rfl ?_;refine gO Tryz.func157 ?_;refine I.loop (κ:=Nat) ([7,9]++rg 79 19) (fun k=>[(79,.d (.int .i64 k)),(7,.own 3 1)]) (fun k=>[(3,.arr 1 (3,1) ((aU z.ab ⟨cut,2⟩::aU z.ab ⟨cut,8⟩::fw z.ab cut (s.set.data.take k)).map (.int .i64)))]) (fun k=>k≤s.set.data.length) (fun k=>s.set.data.length - k) 0 (Nat.zero_le _) ?_ ?_
    ·(conv=>whnf);repeat (first | exact trivial | (refine sI ?_; conv=>whnf))
     refine And.intro rfl ?_;exact sZ
    intro k hk IH;have iT:=te z.ab cut (s.set.data.take k);rw [List.length_take] at iT;refine I.head af Tryz.func157 2000 ?_;(conv=>whnf);refine ai (fun h5=>?_) (fun h5=>?_)
    ·have nL:k<s.set.data.length:=by simpa using h5
     obtain ⟨d,hd⟩:=aL nL;have c2:=ta d.text cut (jw d (List.mem_of_getElem? hd)) hc;have p1:=p1 d.text;have eE:=vw (l:=z.ab) (c:=cut) hd;refine gO Tryz.func157 ?_;refine aE (e:=d.enc) (aX hd) rfl ?_;refine gO Tryz.func157 ?_;refine I.bH af bI 2000 (by kernel_rfl) ?_;(conv=>whnf);refine ay (c2) ?_;refine gD ?_;refine gO Tryz.func157 ?_;cases hu:Nm.under d.text cut
     ·rw [hu,if_neg (by decide),List.append_nil] at eE;refine aQ ?_;refine gO Tryz.func157 ?_;refine I.back (IH (k+1) (by omega) (by omega)) ?_;rw [eE];exact sZ
     ·rw [hu,if_pos rfl] at eE;refine aV ?_;refine gO Tryz.func157 ?_
      with_reducible refine bD (p1) ?_
      refine gO Tryz.func157 ?_;refine a8 ⟨by simp; omega,by simp [DV.cells]⟩ ?_;refine gO Tryz.func157 ?_;refine I.back (IH (k+1) (by omega) (by omega)) ?_;rw [eE];(conv=>whnf);repeat (first | exact trivial | (refine sI ?_; conv=>whnf))
      refine And.intro (by simp) ?_;exact sZ
    ·have aC:s.set.data.length≤k:=by simpa using h5
     rw [List.take_of_length_le aC];(conv=>whnf);refine I.freeze 3 ?_;(conv=>whnf);refine gO Tryz.func157 ?_
     with_reducible refine bD (c4) ?_
     refine gO Tryz.func157 ?_;rw [nK];exact ⟨rfl,rfl⟩
   ·with_reducible refine bD (p6) ?_
    refine gO Tryz.func157 ?_;refine aZ (decide_eq_false aj) ?_;(conv=>whnf);refine I.run af Tryz.func157 5 ?_;have nK:ki z.ab cut=cA (aU z.ab ⟨cut,2⟩::aU z.ab ⟨cut,6⟩::fw z.ab cut s.set.data):=by
     rw [ki,rj,if_neg aj,oH,jD];rfl
    have c4:=kY z q cut true w 4 (aU z.ab ⟨cut,2⟩::aU z.ab ⟨cut,6⟩::fw z.ab cut s.set.data) hf (fun p hp=>by
     rcases List.mem_cons.1 hp with rfl | hp
     ·exact fX.2
     rcases List.mem_cons.1 hp with rfl | hp
     ·exact fX.2
     exact vx hp) (by simp; omega)
    unfold bw bg at c4;(conv=>whnf);refine I.pf af rfl ?_;refine gO Tryz.func157 ?_;refine aE (e:=s.enc) ⟨h2,by rw [List.getElem?_map,hs]; rfl⟩ rfl ?_;refine gO Tryz.func157 ?_;refine I.loop (κ:=Nat) ([7,9]++rg 79 19) (fun k=>[(79,.d (.int .i64 k)),(7,.own 3 1)]) (fun k=>[(3,.arr 1 (3,1) ((aU z.ab ⟨cut,2⟩::aU z.ab ⟨cut,6⟩::fw z.ab cut (s.set.data.take k)).map (.int .i64)))]) (fun k=>k≤s.set.data.length) (fun k=>s.set.data.length - k) 0 (Nat.zero_le _) ?_ ?_
    ·(conv=>whnf);repeat (first | exact trivial | (refine sI ?_; conv=>whnf))
     refine And.intro rfl ?_;exact sZ
    intro k hk IH;have iT:=te z.ab cut (s.set.data.take k);rw [List.length_take] at iT;refine I.head af Tryz.func157 2000 ?_;(conv=>whnf);refine ai (fun h5=>?_) (fun h5=>?_)
    ·have nL:k<s.set.data.length:=by simpa using h5
     obtain ⟨d,hd⟩:=aL nL;have c2:=ta d.text cut (jw d (List.mem_of_getElem? hd)) hc;have p1:=p1 d.text;have eE:=vw (l:=z.ab) (c:=cut) hd;refine gO Tryz.func157 ?_;refine aE (e:=d.enc) (aX hd) rfl ?_;refine gO Tryz.func157 ?_;refine I.bH af bI 2000 (by kernel_rfl) ?_;(conv=>whnf);refine ay (c2) ?_;refine gD ?_;refine gO Tryz.func157 ?_;cases hu:Nm.under d.text cut
     ·rw [hu,if_neg (by decide),List.append_nil] at eE;refine aQ ?_;refine gO Tryz.func157 ?_;refine I.back (IH (k+1) (by omega) (by omega)) ?_;rw [eE];exact sZ
     ·rw [hu,if_pos rfl] at eE;refine aV ?_;refine gO Tryz.func157 ?_
      with_reducible refine bD (p1) ?_
      refine gO Tryz.func157 ?_;refine a8 ⟨by simp; omega,by simp [DV.cells]⟩ ?_;refine gO Tryz.func157 ?_;refine I.back (IH (k+1) (by omega) (by omega)) ?_;rw [eE];(conv=>whnf);repeat (first | exact trivial | (refine sI ?_; conv=>whnf))
      refine And.intro (by simp) ?_;exact sZ
    ·have aC:s.set.data.length≤k:=by simpa using h5
     rw [List.take_of_length_le aC];(conv=>whnf);refine I.freeze 3 ?_;(conv=>whnf);refine gO Tryz.func157 ?_
     with_reducible refine bD (c4) ?_
     refine gO Tryz.func157 ?_;rw [nK];exact ⟨rfl,rfl⟩
  ·by_cases hn:q.name=cut
   ·have h8:q.type≠8:=fun e=>by simp [mP,hn,e] at hb
    refine au.run af (fn:=Tryz.f157) Tryz.func157 (body:=Tryz.f157.body.getD .skip) rfl (by decide) 2000 rfl ?_;(conv=>whnf);refine aZ (by simpa using h6) ?_;refine gO Tryz.func157 ?_;refine I.bH af bI 2000 (by kernel_rfl) ?_;(conv=>whnf);refine aQ ?_;refine gD ?_;refine bh (by simpa using hn) ?_;refine gD ?_;refine gO Tryz.func157 ?_;refine aZ (by simpa using h8) ?_;refine gO Tryz.func157 ?_
    with_reducible refine bD (p2) ?_
    refine gO Tryz.func157 ?_;by_cases aj:aU z.ab ⟨cut,6⟩<0
    ·with_reducible refine bD (p6) ?_
     refine gO Tryz.func157 ?_;refine bh (decide_eq_true aj) ?_;refine gO Tryz.func157 ?_
     with_reducible refine bD p8 ?_
     (conv=>whnf);refine I.run af Tryz.func157 6 ?_;have nK:ki z.ab cut=cA (aU z.ab ⟨cut,2⟩::aU z.ab ⟨cut,8⟩::fw z.ab cut s.set.data):=by
      rw [ki,rj,if_pos aj,oH,jD];rfl
     have c4:=kY z q cut true w 4 (aU z.ab ⟨cut,2⟩::aU z.ab ⟨cut,8⟩::fw z.ab cut s.set.data) hf (fun p hp=>by
      rcases List.mem_cons.1 hp with rfl | hp
      ·exact fX.2
      rcases List.mem_cons.1 hp with rfl | hp
      ·exact fX.2
      exact vx hp) (by simp; omega)
     unfold bw bg at c4;(conv=>whnf);refine I.pf af rfl ?_;refine gO Tryz.func157 ?_;refine aE (e:=s.enc) ⟨h2,by rw [List.getElem?_map,hs]; rfl⟩ rfl ?_;refine gO Tryz.func157 ?_;refine I.loop (κ:=Nat) ([7,9]++rg 79 19) (fun k=>[(79,.d (.int .i64 k)),(7,.own 3 1)]) (fun k=>[(3,.arr 1 (3,1) ((aU z.ab ⟨cut,2⟩::aU z.ab ⟨cut,8⟩::fw z.ab cut (s.set.data.take k)).map (.int .i64)))]) (fun k=>k≤s.set.data.length) (fun k=>s.set.data.length - k) 0 (Nat.zero_le _) ?_ ?_
     ·(conv=>whnf);repeat (first | exact trivial | (refine sI ?_; conv=>whnf))
      refine And.intro rfl ?_;exact sZ
     intro k hk IH;have iT:=te z.ab cut (s.set.data.take k);rw [List.length_take] at iT;refine I.head af Tryz.func157 2000 ?_;(conv=>whnf);refine ai (fun h5=>?_) (fun h5=>?_)
     ·have nL:k<s.set.data.length:=by simpa using h5
      obtain ⟨d,hd⟩:=aL nL;have c2:=ta d.text cut (jw d (List.mem_of_getElem? hd)) hc;have p1:=p1 d.text;have eE:=vw (l:=z.ab) (c:=cut) hd;refine gO Tryz.func157 ?_;refine aE (e:=d.enc) (aX hd) rfl ?_;refine gO Tryz.func157 ?_;refine I.bH af bI 2000 (by kernel_rfl) ?_;(conv=>whnf);refine ay (c2) ?_;refine gD ?_;refine gO Tryz.func157 ?_;cases hu:Nm.under d.text cut
      ·rw [hu,if_neg (by decide),List.append_nil] at eE;refine aQ ?_;refine gO Tryz.func157 ?_;refine I.back (IH (k+1) (by omega) (by omega)) ?_;rw [eE];exact sZ
      ·rw [hu,if_pos rfl] at eE;refine aV ?_;refine gO Tryz.func157 ?_
       with_reducible refine bD (p1) ?_
       refine gO Tryz.func157 ?_;refine a8 ⟨by simp; omega,by simp [DV.cells]⟩ ?_;refine gO Tryz.func157 ?_;refine I.back (IH (k+1) (by omega) (by omega)) ?_;rw [eE];(conv=>whnf);repeat (first | exact trivial | (refine sI ?_; conv=>whnf))
       refine And.intro (by simp) ?_;exact sZ
     ·have aC:s.set.data.length≤k:=by simpa using h5
      rw [List.take_of_length_le aC];(conv=>whnf);refine I.freeze 3 ?_;(conv=>whnf);refine gO Tryz.func157 ?_
      with_reducible refine bD (c4) ?_
      refine gO Tryz.func157 ?_;rw [nK];exact ⟨rfl,rfl⟩
    ·with_reducible refine bD (p6) ?_
     refine gO Tryz.func157 ?_;refine aZ (decide_eq_false aj) ?_;(conv=>whnf);refine I.run af Tryz.func157 5 ?_;have nK:ki z.ab cut=cA (aU z.ab ⟨cut,2⟩::aU z.ab ⟨cut,6⟩::fw z.ab cut s.set.data):=by
      rw [ki,rj,if_neg aj,oH,jD];rfl
     have c4:=kY z q cut true w 4 (aU z.ab ⟨cut,2⟩::aU z.ab ⟨cut,6⟩::fw z.ab cut s.set.data) hf (fun p hp=>by
      rcases List.mem_cons.1 hp with rfl | hp
      ·exact fX.2
      rcases List.mem_cons.1 hp with rfl | hp
      ·exact fX.2
      exact vx hp) (by simp; omega)
     unfold bw bg at c4;(conv=>whnf);refine I.pf af rfl ?_;refine gO Tryz.func157 ?_;refine aE (e:=s.enc) ⟨h2,by rw [List.getElem?_map,hs]; rfl⟩ rfl ?_;refine gO Tryz.func157 ?_;refine I.loop (κ:=Nat) ([7,9]++rg 79 19) (fun k=>[(79,.d (.int .i64 k)),(7,.own 3 1)]) (fun k=>[(3,.arr 1 (3,1) ((aU z.ab ⟨cut,2⟩::aU z.ab ⟨cut,6⟩::fw z.ab cut (s.set.data.take k)).map (.int .i64)))]) (fun k=>k≤s.set.data.length) (fun k=>s.set.data.length - k) 0 (Nat.zero_le _) ?_ ?_
     ·(conv=>whnf);repeat (first | exact trivial | (refine sI ?_; conv=>whnf))
      refine And.intro rfl ?_;exact sZ
     intro k hk IH;have iT:=te z.ab cut (s.set.data.take k);rw [List.length_take] at iT;refine I.head af Tryz.func157 2000 ?_;(conv=>whnf);refine ai (fun h5=>?_) (fun h5=>?_)
     ·have nL:k<s.set.data.length:=by simpa using h5
      obtain ⟨d,hd⟩:=aL nL;have c2:=ta d.text cut (jw d (List.mem_of_getElem? hd)) hc;have p1:=p1 d.text;have eE:=vw (l:=z.ab) (c:=cut) hd;refine gO Tryz.func157 ?_;refine aE (e:=d.enc) (aX hd) rfl ?_;refine gO Tryz.func157 ?_;refine I.bH af bI 2000 (by kernel_rfl) ?_;(conv=>whnf);refine ay (c2) ?_;refine gD ?_;refine gO Tryz.func157 ?_;cases hu:Nm.under d.text cut
      ·rw [hu,if_neg (by decide),List.append_nil] at eE;refine aQ ?_;refine gO Tryz.func157 ?_;refine I.back (IH (k+1) (by omega) (by omega)) ?_;rw [eE];exact sZ
      ·rw [hu,if_pos rfl] at eE;refine aV ?_;refine gO Tryz.func157 ?_
       with_reducible refine bD (p1) ?_
       refine gO Tryz.func157 ?_;refine a8 ⟨by simp; omega,by simp [DV.cells]⟩ ?_;refine gO Tryz.func157 ?_;refine I.back (IH (k+1) (by omega) (by omega)) ?_;rw [eE];(conv=>whnf);repeat (first | exact trivial | (refine sI ?_; conv=>whnf))
       refine And.intro (by simp) ?_;exact sZ
     ·have aC:s.set.data.length≤k:=by simpa using h5
      rw [List.take_of_length_le aC];(conv=>whnf);refine I.freeze 3 ?_;(conv=>whnf);refine gO Tryz.func157 ?_
      with_reducible refine bD (c4) ?_
      refine gO Tryz.func157 ?_;rw [nK];exact ⟨rfl,rfl⟩
   ·refine au.run af (fn:=Tryz.f157) Tryz.func157 (body:=Tryz.f157.body.getD .skip) rfl (by decide) 2000 rfl ?_;(conv=>whnf);refine aZ (by simpa using h6) ?_;refine gO Tryz.func157 ?_;refine I.bH af bI 2000 (by kernel_rfl) ?_;(conv=>whnf);refine aQ ?_;refine gD ?_;refine aZ (by simpa using hn) ?_;refine gD ?_;refine gO Tryz.func157 ?_;refine aQ ?_;refine gO Tryz.func157 ?_
    with_reducible refine bD (p2) ?_
    refine gO Tryz.func157 ?_;by_cases aj:aU z.ab ⟨cut,6⟩<0
    ·with_reducible refine bD (p6) ?_
     refine gO Tryz.func157 ?_;refine bh (decide_eq_true aj) ?_;refine gO Tryz.func157 ?_
     with_reducible refine bD p8 ?_
     (conv=>whnf);refine I.run af Tryz.func157 6 ?_;have nK:ki z.ab cut=cA (aU z.ab ⟨cut,2⟩::aU z.ab ⟨cut,8⟩::fw z.ab cut s.set.data):=by
      rw [ki,rj,if_pos aj,oH,jD];rfl
     have c4:=kY z q cut true w 4 (aU z.ab ⟨cut,2⟩::aU z.ab ⟨cut,8⟩::fw z.ab cut s.set.data) hf (fun p hp=>by
      rcases List.mem_cons.1 hp with rfl | hp
      ·exact fX.2
      rcases List.mem_cons.1 hp with rfl | hp
      ·exact fX.2
      exact vx hp) (by simp; omega)
     unfold bw bg at c4;(conv=>whnf);refine I.pf af rfl ?_;refine gO Tryz.func157 ?_;refine aE (e:=s.enc) ⟨h2,by rw [List.getElem?_map,hs]; rfl⟩ rfl ?_;refine gO Tryz.func157 ?_;refine I.loop (κ:=Nat) ([7,9]++rg 79 19) (fun k=>[(79,.d (.int .i64 k)),(7,.own 3 1)]) (fun k=>[(3,.arr 1 (3,1) ((aU z.ab ⟨cut,2⟩::aU z.ab ⟨cut,8⟩::fw z.ab cut (s.set.data.take k)).map (.int .i64)))]) (fun k=>k≤s.set.data.length) (fun k=>s.set.data.length - k) 0 (Nat.zero_le _) ?_ ?_
     ·(conv=>whnf);repeat (first | exact trivial | (refine sI ?_; conv=>whnf))
      refine And.intro rfl ?_;exact sZ
     intro k hk IH;have iT:=te z.ab cut (s.set.data.take k);rw [List.length_take] at iT;refine I.head af Tryz.func157 2000 ?_;(conv=>whnf);refine ai (fun h5=>?_) (fun h5=>?_)
     ·have nL:k<s.set.data.length:=by simpa using h5
      obtain ⟨d,hd⟩:=aL nL;have c2:=ta d.text cut (jw d (List.mem_of_getElem? hd)) hc;have p1:=p1 d.text;have eE:=vw (l:=z.ab) (c:=cut) hd;refine gO Tryz.func157 ?_;refine aE (e:=d.enc) (aX hd) rfl ?_;refine gO Tryz.func157 ?_;refine I.bH af bI 2000 (by kernel_rfl) ?_;(conv=>whnf);refine ay (c2) ?_;refine gD ?_;refine gO Tryz.func157 ?_;cases hu:Nm.under d.text cut
      ·rw [hu,if_neg (by decide),List.append_nil] at eE;refine aQ ?_;refine gO Tryz.func157 ?_;refine I.back (IH (k+1) (by omega) (by omega)) ?_;rw [eE];exact sZ
      ·rw [hu,if_pos rfl] at eE;refine aV ?_;refine gO Tryz.func157 ?_
       with_reducible refine bD (p1) ?_
       refine gO Tryz.func157 ?_;refine a8 ⟨by simp; omega,by simp [DV.cells]⟩ ?_;refine gO Tryz.func157 ?_;refine I.back (IH (k+1) (by omega) (by omega)) ?_;rw [eE];(conv=>whnf);repeat (first | exact trivial | (refine sI ?_; conv=>whnf))
       refine And.intro (by simp) ?_;exact sZ
     ·have aC:s.set.data.length≤k:=by simpa using h5
      rw [List.take_of_length_le aC];(conv=>whnf);refine I.freeze 3 ?_;(conv=>whnf);refine gO Tryz.func157 ?_
      with_reducible refine bD (c4) ?_
      refine gO Tryz.func157 ?_;rw [nK];exact ⟨rfl,rfl⟩
    ·with_reducible refine bD (p6) ?_
     refine gO Tryz.func157 ?_;refine aZ (decide_eq_false aj) ?_;(conv=>whnf);refine I.run af Tryz.func157 5 ?_;have nK:ki z.ab cut=cA (aU z.ab ⟨cut,2⟩::aU z.ab ⟨cut,6⟩::fw z.ab cut s.set.data):=by
      rw [ki,rj,if_neg aj,oH,jD];rfl
     have c4:=kY z q cut true w 4 (aU z.ab ⟨cut,2⟩::aU z.ab ⟨cut,6⟩::fw z.ab cut s.set.data) hf (fun p hp=>by
      rcases List.mem_cons.1 hp with rfl | hp
      ·exact fX.2
      rcases List.mem_cons.1 hp with rfl | hp
      ·exact fX.2
      exact vx hp) (by simp; omega)
     unfold bw bg at c4;(conv=>whnf);refine I.pf af rfl ?_;refine gO Tryz.func157 ?_;refine aE (e:=s.enc) ⟨h2,by rw [List.getElem?_map,hs]; rfl⟩ rfl ?_;refine gO Tryz.func157 ?_;refine I.loop (κ:=Nat) ([7,9]++rg 79 19) (fun k=>[(79,.d (.int .i64 k)),(7,.own 3 1)]) (fun k=>[(3,.arr 1 (3,1) ((aU z.ab ⟨cut,2⟩::aU z.ab ⟨cut,6⟩::fw z.ab cut (s.set.data.take k)).map (.int .i64)))]) (fun k=>k≤s.set.data.length) (fun k=>s.set.data.length - k) 0 (Nat.zero_le _) ?_ ?_
     ·(conv=>whnf);repeat (first | exact trivial | (refine sI ?_; conv=>whnf))
      refine And.intro rfl ?_;exact sZ
     intro k hk IH;have iT:=te z.ab cut (s.set.data.take k);rw [List.length_take] at iT;refine I.head af Tryz.func157 2000 ?_;(conv=>whnf);refine ai (fun h5=>?_) (fun h5=>?_)
     ·have nL:k<s.set.data.length:=by simpa using h5
      obtain ⟨d,hd⟩:=aL nL;have c2:=ta d.text cut (jw d (List.mem_of_getElem? hd)) hc;have p1:=p1 d.text;have eE:=vw (l:=z.ab) (c:=cut) hd;refine gO Tryz.func157 ?_;refine aE (e:=d.enc) (aX hd) rfl ?_;refine gO Tryz.func157 ?_;refine I.bH af bI 2000 (by kernel_rfl) ?_;(conv=>whnf);refine ay (c2) ?_;refine gD ?_;refine gO Tryz.func157 ?_;cases hu:Nm.under d.text cut
      ·rw [hu,if_neg (by decide),List.append_nil] at eE;refine aQ ?_;refine gO Tryz.func157 ?_;refine I.back (IH (k+1) (by omega) (by omega)) ?_;rw [eE];exact sZ
      ·rw [hu,if_pos rfl] at eE;refine aV ?_;refine gO Tryz.func157 ?_
       with_reducible refine bD (p1) ?_
       refine gO Tryz.func157 ?_;refine a8 ⟨by simp; omega,by simp [DV.cells]⟩ ?_;refine gO Tryz.func157 ?_;refine I.back (IH (k+1) (by omega) (by omega)) ?_;rw [eE];(conv=>whnf);repeat (first | exact trivial | (refine sI ?_; conv=>whnf))
       refine And.intro (by simp) ?_;exact sZ
     ·have aC:s.set.data.length≤k:=by simpa using h5
      rw [List.take_of_length_le aC];(conv=>whnf);refine I.freeze 3 ?_;(conv=>whnf);refine gO Tryz.func157 ?_
      with_reducible refine bD (c4) ?_
      refine gO Tryz.func157 ?_;rw [nK];exact ⟨rfl,rfl⟩
end Go.Proofs.YtfmdaiojokniiaaGreatDoor.P
