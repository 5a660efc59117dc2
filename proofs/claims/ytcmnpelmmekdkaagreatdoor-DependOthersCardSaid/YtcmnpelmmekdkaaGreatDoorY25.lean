/- Several texts of mine, one behind the other. Conditions: as each says. -/
import Derived.Test.YtcmnpelmmekdkaaGreatDoorY24
set_option linter.unusedVariables false
set_option linter.unusedSimpArgs false
section
namespace Go.Proofs.YtcmnpelmmekdkaaGreatDoor.P
open Go Go.ax
set_option maxRecDepth 100000
set_option maxHeartbeats 4000000
theorem Yn {s:eu} (h:fc s=true) (ht:s.type=2):∀ d∈s.data,Nm.valid d.text=true:=fun d hd=>by
 simp only [fc,Bool.and_eq_true] at h;have:=Cw h.2 d hd;rw [ht] at this;simp only [jv,Bool.and_eq_true] at this;have:=this.2;simp [lZ,fA] at this;exact this.1
def fK (l:List Signed) (c:Text) (D:List Datum):List Int:=(D.filter fun d=>Nm.under d.text c).map fun d=>aO l ⟨d.text,1⟩
theorem xF {l:List Signed} {c:Text} {D:List Datum} {k:Nat} {d:Datum} (h:D[k]? = some d):fK l c (D.take (k+1))=fK l c (D.take k)++(if Nm.under d.text c then [aO l ⟨d.text,1⟩] else []):=by
 rw [eI h];unfold fK;rw [List.filter_append,List.map_append];cases e:Nm.under d.text c <;> simp [e]
theorem sY (l:List Signed) (c:Text) (D:List Datum):(fK l c D).length≤D.length:=by
 unfold fK;rw [List.length_map];exact List.length_filter_le _ _
theorem xG {l:List Signed} {c:Text} {D:List Datum} {p:Int} (h:p∈fK l c D):p<l.length:=by
 simp only [fK,List.mem_map] at h;obtain ⟨d,-,rfl⟩:=h;exact ib.2
def nU (q:aS) (cut:Text) (b:Bool):Bool := !b||(decide (q.name=cut)&&(decide (q.type=6)||decide (q.type=8)))
theorem Yo (z:aU) (q:aS) (cut:Text) (b:Bool) (w:Text) (hb:nU q cut b=true):aC E 53 [bF z q cut b w,bu z] [.ptr 0 0] (fun x h=>x = .aL [.d H5,.d (.bool false)]∧h=[bF z q cut b w,bu z]):=by
 apply aC.kG
 case hk=>rfl
 case hc =>
  unfold bF bu;by_cases h6:q.type=6
  ·refine aC.run aj (fn:=Tryz.f53) Tryz.func53 (body:=Tryz.f53.body.getD .skip) rfl (by decide) 2000 rfl ?_;(conv=>whnf);refine aM (by simpa using h6) ?_;refine gO Tryz.func53 ?_;cases b
   ·refine aa.draw aj bW 20 2000 (by kernel_rfl) ?_;(conv=>whnf);refine bq ?_;refine gD ?_;refine gS ?_;refine gO Tryz.func53 ?_;refine bq ?_;refine gO Tryz.func53 ?_;exact ⟨rfl,rfl⟩
   ·have hn:q.name=cut:=by simpa [nU,h6] using hb
    refine aa.draw aj bW 20 2000 (by kernel_rfl) ?_;(conv=>whnf);refine ba ?_;refine gD ?_;refine aM (by simpa using hn) ?_;refine gD ?_;refine gS ?_;refine gO Tryz.func53 ?_;refine bq ?_;refine gO Tryz.func53 ?_;exact ⟨rfl,rfl⟩
  ·refine aC.run aj (fn:=Tryz.f53) Tryz.func53 (body:=Tryz.f53.body.getD .skip) rfl (by decide) 2000 rfl ?_;(conv=>whnf);refine aI (by simpa using h6) ?_;refine gO Tryz.func53 ?_;cases b
   ·refine aa.draw aj bW 20 2000 (by kernel_rfl) ?_;(conv=>whnf);refine bq ?_;refine gD ?_;refine gS ?_;refine gO Tryz.func53 ?_;refine bq ?_;refine gO Tryz.func53 ?_;exact ⟨rfl,rfl⟩
   ·have hn:q.name=cut∧q.type=8:=by simpa [nU,h6] using hb
    refine aa.draw aj bW 20 2000 (by kernel_rfl) ?_;(conv=>whnf);refine ba ?_;refine gD ?_;refine aM (by simpa using hn.1) ?_;refine gD ?_;refine gS ?_;refine gO Tryz.func53 ?_;refine aM (by simpa using hn.2) ?_;refine gO Tryz.func53 ?_;exact ⟨rfl,rfl⟩
theorem Yp (z:aU) (q:aS) (cut:Text) (w:Text) (V:gd z) (hf:z.mc) (hc:Nm.valid cut=true) (h2:0≤aO z.af ⟨cut,2⟩) (hb:nU q cut true=false):aC E 53 [bF z q cut true w,bu z] [.ptr 0 0] (fun x h=>x = .aL [.d (oT 4 (dI z.af (iJ z.af cut)) cut),.d (.bool true)]∧h=[bF z q cut true w,bu z]):=by
 have p2:=rD z q cut true w cut 2 V.sorted;have p6:=rD z q cut true w cut 6 V.sorted;have p8:=rD z q cut true w cut 8 V.sorted;have p1:=fun n=>rD z q cut true w n 1 V.sorted;have rP:=(ib (l:=z.af) (q:=⟨cut,2⟩)).2;obtain ⟨s,hs,iN⟩:=rA h2;have l5:=Yn (V.af s (List.mem_of_getElem? hs)) (congrArg aS.type (uZ iN)).symm;have hl8:=(wZ (V.af s (List.mem_of_getElem? hs))).2.1;have acv:=sY z.af cut s.set.data;have lY:De z.af cut=s.set.data:=by rw [De,hs]
 unfold bF bu at p2 p6 p8 p1;apply aC.kG
 case hk=>rfl
 case hc =>
  unfold bF bu;by_cases h6:q.type=6
  ·have hn:q.name≠cut:=fun e=>by simp [nU,h6,e] at hb
   refine aC.run aj (fn:=Tryz.f53) Tryz.func53 (body:=Tryz.f53.body.getD .skip) rfl (by decide) 2000 rfl ?_;(conv=>whnf);refine aM (by simpa using h6) ?_;refine gO Tryz.func53 ?_;refine aa.draw aj bW 20 2000 (by kernel_rfl) ?_;(conv=>whnf);refine ba ?_;refine gD ?_;refine aI (by simpa using hn) ?_;refine gD ?_;refine gS ?_;refine gO Tryz.func53 ?_;refine ba ?_;refine gO Tryz.func53 ?_
   with_reducible refine bR (p2) ?_
   refine gO Tryz.func53 ?_;by_cases ai:aO z.af ⟨cut,6⟩<0
   ·with_reducible refine bR (p6) ?_
    refine gO Tryz.func53 ?_;refine aM (decide_eq_true ai) ?_;refine gO Tryz.func53 ?_
    with_reducible refine bR p8 ?_
    (conv=>whnf);refine aa.run aj Tryz.func53 6 ?_;have oU:iJ z.af cut=cV (aO z.af ⟨cut,2⟩::aO z.af ⟨cut,8⟩::fK z.af cut s.set.data):=by
     rw [iJ,oS,if_pos ai,me,lY];rfl
    have c4:=mh z q cut true w 4 (aO z.af ⟨cut,2⟩::aO z.af ⟨cut,8⟩::fK z.af cut s.set.data) hf (fun p hp=>by
     rcases List.mem_cons.1 hp with rfl | hp
     ·exact ib.2
     rcases List.mem_cons.1 hp with rfl | hp
     ·exact ib.2
     exact xG hp) (by simp; omega)
    unfold bF bu at c4;(conv=>whnf);refine aa.qS aj rfl ?_;refine gO Tryz.func53 ?_;refine aF (e:=s.enc) ⟨h2,by rw [List.getElem?_map,hs]; rfl⟩ rfl ?_;refine gO Tryz.func53 ?_;refine aa.loop (κ:=Nat) ([7,9]++rg 79 19) (fun k=>[(79,.d (.int .i64 k)),(7,.own 3 1)]) (fun k=>[(3,.arr 1 (3,1) ((aO z.af ⟨cut,2⟩::aO z.af ⟨cut,8⟩::fK z.af cut (s.set.data.take k)).map (.int .i64)))]) (fun k=>k≤s.set.data.length) (fun k=>s.set.data.length - k) 0 (Nat.zero_le _) ?_ ?_
    ·(conv=>whnf);repeat (first | exact trivial | (refine sI ?_; conv=>whnf))
     refine And.intro rfl ?_;exact sZ
    intro k hk IH;have kz:=sY z.af cut (s.set.data.take k);rw [List.length_take] at kz;refine aa.head aj Tryz.func53 2000 ?_;(conv=>whnf);refine aw (fun h5=>?_) (fun h5=>?_)
    ·have oV:k<s.set.data.length:=by simpa using h5
     obtain ⟨d,hd⟩:=aY oV;have c2:=vh d.text cut (l5 d (List.mem_of_getElem? hd)) hc;have p1:=p1 d.text;have fg:=xF (l:=z.af) (c:=cut) hd;refine gO Tryz.func53 ?_;refine aF (e:=d.enc) (a7 hd) rfl ?_;refine gO Tryz.func53 ?_;refine aa.draw aj bW 7 2000 (by kernel_rfl) ?_;(conv=>whnf);refine bg (c2) ?_;refine gD ?_;refine gS ?_;refine gO Tryz.func53 ?_;cases hu:Nm.under d.text cut
     ·rw [hu,if_neg (by decide),List.append_nil] at fg;refine ba ?_;refine gO Tryz.func53 ?_;refine aa.back (IH (k+1) (by omega) (by omega)) ?_;rw [fg];exact sZ
     ·rw [hu,if_pos rfl] at fg;refine bq ?_;refine gO Tryz.func53 ?_
      with_reducible refine bR (p1) ?_
      refine gO Tryz.func53 ?_;refine bQ ⟨by simp; omega,by simp [DV.cells]⟩ ?_;refine gO Tryz.func53 ?_;refine aa.back (IH (k+1) (by omega) (by omega)) ?_;rw [fg];(conv=>whnf);repeat (first | exact trivial | (refine sI ?_; conv=>whnf))
      refine And.intro (by simp) ?_;exact sZ
    ·have aP:s.set.data.length≤k:=by simpa using h5
     rw [List.take_of_length_le aP];(conv=>whnf);refine aa.freeze 3 ?_;(conv=>whnf);refine gO Tryz.func53 ?_
     with_reducible refine bR (c4) ?_
     refine gO Tryz.func53 ?_;rw [oU];exact ⟨rfl,rfl⟩
   ·with_reducible refine bR (p6) ?_
    refine gO Tryz.func53 ?_;refine aI (decide_eq_false ai) ?_;(conv=>whnf);refine aa.run aj Tryz.func53 5 ?_;have oU:iJ z.af cut=cV (aO z.af ⟨cut,2⟩::aO z.af ⟨cut,6⟩::fK z.af cut s.set.data):=by
     rw [iJ,oS,if_neg ai,me,lY];rfl
    have c4:=mh z q cut true w 4 (aO z.af ⟨cut,2⟩::aO z.af ⟨cut,6⟩::fK z.af cut s.set.data) hf (fun p hp=>by
     rcases List.mem_cons.1 hp with rfl | hp
     ·exact ib.2
     rcases List.mem_cons.1 hp with rfl | hp
     ·exact ib.2
     exact xG hp) (by simp; omega)
    unfold bF bu at c4;(conv=>whnf);refine aa.qS aj rfl ?_;refine gO Tryz.func53 ?_;refine aF (e:=s.enc) ⟨h2,by rw [List.getElem?_map,hs]; rfl⟩ rfl ?_;refine gO Tryz.func53 ?_;refine aa.loop (κ:=Nat) ([7,9]++rg 79 19) (fun k=>[(79,.d (.int .i64 k)),(7,.own 3 1)]) (fun k=>[(3,.arr 1 (3,1) ((aO z.af ⟨cut,2⟩::aO z.af ⟨cut,6⟩::fK z.af cut (s.set.data.take k)).map (.int .i64)))]) (fun k=>k≤s.set.data.length) (fun k=>s.set.data.length - k) 0 (Nat.zero_le _) ?_ ?_
    ·(conv=>whnf);repeat (first | exact trivial | (refine sI ?_; conv=>whnf))
     refine And.intro rfl ?_;exact sZ
    intro k hk IH;have kz:=sY z.af cut (s.set.data.take k);rw [List.length_take] at kz;refine aa.head aj Tryz.func53 2000 ?_;(conv=>whnf);refine aw (fun h5=>?_) (fun h5=>?_)
    ·have oV:k<s.set.data.length:=by simpa using h5
     obtain ⟨d,hd⟩:=aY oV;have c2:=vh d.text cut (l5 d (List.mem_of_getElem? hd)) hc;have p1:=p1 d.text;have fg:=xF (l:=z.af) (c:=cut) hd;refine gO Tryz.func53 ?_;refine aF (e:=d.enc) (a7 hd) rfl ?_;refine gO Tryz.func53 ?_;refine aa.draw aj bW 7 2000 (by kernel_rfl) ?_;(conv=>whnf);refine bg (c2) ?_;refine gD ?_;refine gS ?_;refine gO Tryz.func53 ?_;cases hu:Nm.under d.text cut
     ·rw [hu,if_neg (by decide),List.append_nil] at fg;refine ba ?_;refine gO Tryz.func53 ?_;refine aa.back (IH (k+1) (by omega) (by omega)) ?_;rw [fg];exact sZ
     ·rw [hu,if_pos rfl] at fg;refine bq ?_;refine gO Tryz.func53 ?_
      with_reducible refine bR (p1) ?_
      refine gO Tryz.func53 ?_;refine bQ ⟨by simp; omega,by simp [DV.cells]⟩ ?_;refine gO Tryz.func53 ?_;refine aa.back (IH (k+1) (by omega) (by omega)) ?_;rw [fg];(conv=>whnf);repeat (first | exact trivial | (refine sI ?_; conv=>whnf))
      refine And.intro (by simp) ?_;exact sZ
    ·have aP:s.set.data.length≤k:=by simpa using h5
     rw [List.take_of_length_le aP];(conv=>whnf);refine aa.freeze 3 ?_;(conv=>whnf);refine gO Tryz.func53 ?_
     with_reducible refine bR (c4) ?_
     refine gO Tryz.func53 ?_;rw [oU];exact ⟨rfl,rfl⟩
  ·by_cases hn:q.name=cut
   ·have h8:q.type≠8:=fun e=>by simp [nU,hn,e] at hb
    refine aC.run aj (fn:=Tryz.f53) Tryz.func53 (body:=Tryz.f53.body.getD .skip) rfl (by decide) 2000 rfl ?_;(conv=>whnf);refine aI (by simpa using h6) ?_;refine gO Tryz.func53 ?_;refine aa.draw aj bW 20 2000 (by kernel_rfl) ?_;(conv=>whnf);refine ba ?_;refine gD ?_;refine aM (by simpa using hn) ?_;refine gD ?_;refine gS ?_;refine gO Tryz.func53 ?_;refine aI (by simpa using h8) ?_;refine gO Tryz.func53 ?_
    with_reducible refine bR (p2) ?_
    refine gO Tryz.func53 ?_;by_cases ai:aO z.af ⟨cut,6⟩<0
    ·with_reducible refine bR (p6) ?_
     refine gO Tryz.func53 ?_;refine aM (decide_eq_true ai) ?_;refine gO Tryz.func53 ?_
     with_reducible refine bR p8 ?_
     (conv=>whnf);refine aa.run aj Tryz.func53 6 ?_;have oU:iJ z.af cut=cV (aO z.af ⟨cut,2⟩::aO z.af ⟨cut,8⟩::fK z.af cut s.set.data):=by
      rw [iJ,oS,if_pos ai,me,lY];rfl
     have c4:=mh z q cut true w 4 (aO z.af ⟨cut,2⟩::aO z.af ⟨cut,8⟩::fK z.af cut s.set.data) hf (fun p hp=>by
      rcases List.mem_cons.1 hp with rfl | hp
      ·exact ib.2
      rcases List.mem_cons.1 hp with rfl | hp
      ·exact ib.2
      exact xG hp) (by simp; omega)
     unfold bF bu at c4;(conv=>whnf);refine aa.qS aj rfl ?_;refine gO Tryz.func53 ?_;refine aF (e:=s.enc) ⟨h2,by rw [List.getElem?_map,hs]; rfl⟩ rfl ?_;refine gO Tryz.func53 ?_;refine aa.loop (κ:=Nat) ([7,9]++rg 79 19) (fun k=>[(79,.d (.int .i64 k)),(7,.own 3 1)]) (fun k=>[(3,.arr 1 (3,1) ((aO z.af ⟨cut,2⟩::aO z.af ⟨cut,8⟩::fK z.af cut (s.set.data.take k)).map (.int .i64)))]) (fun k=>k≤s.set.data.length) (fun k=>s.set.data.length - k) 0 (Nat.zero_le _) ?_ ?_
     ·(conv=>whnf);repeat (first | exact trivial | (refine sI ?_; conv=>whnf))
      refine And.intro rfl ?_;exact sZ
     intro k hk IH;have kz:=sY z.af cut (s.set.data.take k);rw [List.length_take] at kz;refine aa.head aj Tryz.func53 2000 ?_;(conv=>whnf);refine aw (fun h5=>?_) (fun h5=>?_)
     ·have oV:k<s.set.data.length:=by simpa using h5
      obtain ⟨d,hd⟩:=aY oV;have c2:=vh d.text cut (l5 d (List.mem_of_getElem? hd)) hc;have p1:=p1 d.text;have fg:=xF (l:=z.af) (c:=cut) hd;refine gO Tryz.func53 ?_;refine aF (e:=d.enc) (a7 hd) rfl ?_;refine gO Tryz.func53 ?_;refine aa.draw aj bW 7 2000 (by kernel_rfl) ?_;(conv=>whnf);refine bg (c2) ?_;refine gD ?_;refine gS ?_;refine gO Tryz.func53 ?_;cases hu:Nm.under d.text cut
      ·rw [hu,if_neg (by decide),List.append_nil] at fg;refine ba ?_;refine gO Tryz.func53 ?_;refine aa.back (IH (k+1) (by omega) (by omega)) ?_;rw [fg];exact sZ
      ·rw [hu,if_pos rfl] at fg;refine bq ?_;refine gO Tryz.func53 ?_
       with_reducible refine bR (p1) ?_
       refine gO Tryz.func53 ?_;refine bQ ⟨by simp; omega,by simp [DV.cells]⟩ ?_;refine gO Tryz.func53 ?_;refine aa.back (IH (k+1) (by omega) (by omega)) ?_;rw [fg];(conv=>whnf);repeat (first | exact trivial | (refine sI ?_; conv=>whnf))
       refine And.intro (by simp) ?_;exact sZ
     ·have aP:s.set.data.length≤k:=by simpa using h5
      rw [List.take_of_length_le aP];(conv=>whnf);refine aa.freeze 3 ?_;(conv=>whnf);refine gO Tryz.func53 ?_
      with_reducible refine bR (c4) ?_
      refine gO Tryz.func53 ?_;rw [oU];exact ⟨rfl,rfl⟩
    ·with_reducible refine bR (p6) ?_
     refine gO Tryz.func53 ?_;refine aI (decide_eq_false ai) ?_;(conv=>whnf);refine aa.run aj Tryz.func53 5 ?_;have oU:iJ z.af cut=cV (aO z.af ⟨cut,2⟩::aO z.af ⟨cut,6⟩::fK z.af cut s.set.data):=by
      rw [iJ,oS,if_neg ai,me,lY];rfl
     have c4:=mh z q cut true w 4 (aO z.af ⟨cut,2⟩::aO z.af ⟨cut,6⟩::fK z.af cut s.set.data) hf (fun p hp=>by
      rcases List.mem_cons.1 hp with rfl | hp
      ·exact ib.2
      rcases List.mem_cons.1 hp with rfl | hp
      ·exact ib.2
      exact xG hp) (by simp; omega)
     unfold bF bu at c4;(conv=>whnf);refine aa.qS aj rfl ?_;refine gO Tryz.func53 ?_;refine aF (e:=s.enc) ⟨h2,by rw [List.getElem?_map,hs]; rfl⟩ rfl ?_;refine gO Tryz.func53 ?_;refine aa.loop (κ:=Nat) ([7,9]++rg 79 19) (fun k=>[(79,.d (.int .i64 k)),(7,.own 3 1)]) (fun k=>[(3,.arr 1 (3,1) ((aO z.af ⟨cut,2⟩::aO z.af ⟨cut,6⟩::fK z.af cut (s.set.data.take k)).map (.int .i64)))]) (fun k=>k≤s.set.data.length) (fun k=>s.set.data.length - k) 0 (Nat.zero_le _) ?_ ?_
     ·(conv=>whnf);repeat (first | exact trivial | (refine sI ?_; conv=>whnf))
      refine And.intro rfl ?_;exact sZ
     intro k hk IH;have kz:=sY z.af cut (s.set.data.take k);rw [List.length_take] at kz;refine aa.head aj Tryz.func53 2000 ?_;(conv=>whnf);refine aw (fun h5=>?_) (fun h5=>?_)
     ·have oV:k<s.set.data.length:=by simpa using h5
      obtain ⟨d,hd⟩:=aY oV;have c2:=vh d.text cut (l5 d (List.mem_of_getElem? hd)) hc;have p1:=p1 d.text;have fg:=xF (l:=z.af) (c:=cut) hd;refine gO Tryz.func53 ?_;refine aF (e:=d.enc) (a7 hd) rfl ?_;refine gO Tryz.func53 ?_;refine aa.draw aj bW 7 2000 (by kernel_rfl) ?_;(conv=>whnf);refine bg (c2) ?_;refine gD ?_;refine gS ?_;refine gO Tryz.func53 ?_;cases hu:Nm.under d.text cut
      ·rw [hu,if_neg (by decide),List.append_nil] at fg;refine ba ?_;refine gO Tryz.func53 ?_;refine aa.back (IH (k+1) (by omega) (by omega)) ?_;rw [fg];exact sZ
      ·rw [hu,if_pos rfl] at fg;refine bq ?_;refine gO Tryz.func53 ?_
       with_reducible refine bR (p1) ?_
       refine gO Tryz.func53 ?_;refine bQ ⟨by simp; omega,by simp [DV.cells]⟩ ?_;refine gO Tryz.func53 ?_;refine aa.back (IH (k+1) (by omega) (by omega)) ?_;rw [fg];(conv=>whnf);repeat (first | exact trivial | (refine sI ?_; conv=>whnf))
       refine And.intro (by simp) ?_;exact sZ
     ·have aP:s.set.data.length≤k:=by simpa using h5
      rw [List.take_of_length_le aP];(conv=>whnf);refine aa.freeze 3 ?_;(conv=>whnf);refine gO Tryz.func53 ?_
      with_reducible refine bR (c4) ?_
      refine gO Tryz.func53 ?_;rw [oU];exact ⟨rfl,rfl⟩
   ·refine aC.run aj (fn:=Tryz.f53) Tryz.func53 (body:=Tryz.f53.body.getD .skip) rfl (by decide) 2000 rfl ?_;(conv=>whnf);refine aI (by simpa using h6) ?_;refine gO Tryz.func53 ?_;refine aa.draw aj bW 20 2000 (by kernel_rfl) ?_;(conv=>whnf);refine ba ?_;refine gD ?_;refine aI (by simpa using hn) ?_;refine gD ?_;refine gS ?_;refine gO Tryz.func53 ?_;refine ba ?_;refine gO Tryz.func53 ?_
    with_reducible refine bR (p2) ?_
    refine gO Tryz.func53 ?_;by_cases ai:aO z.af ⟨cut,6⟩<0
    ·with_reducible refine bR (p6) ?_
     refine gO Tryz.func53 ?_;refine aM (decide_eq_true ai) ?_;refine gO Tryz.func53 ?_
     with_reducible refine bR p8 ?_
     (conv=>whnf);refine aa.run aj Tryz.func53 6 ?_;have oU:iJ z.af cut=cV (aO z.af ⟨cut,2⟩::aO z.af ⟨cut,8⟩::fK z.af cut s.set.data):=by
      rw [iJ,oS,if_pos ai,me,lY];rfl
     have c4:=mh z q cut true w 4 (aO z.af ⟨cut,2⟩::aO z.af ⟨cut,8⟩::fK z.af cut s.set.data) hf (fun p hp=>by
      rcases List.mem_cons.1 hp with rfl | hp
      ·exact ib.2
      rcases List.mem_cons.1 hp with rfl | hp
      ·exact ib.2
      exact xG hp) (by simp; omega)
     unfold bF bu at c4;(conv=>whnf);refine aa.qS aj rfl ?_;refine gO Tryz.func53 ?_;refine aF (e:=s.enc) ⟨h2,by rw [List.getElem?_map,hs]; rfl⟩ rfl ?_;refine gO Tryz.func53 ?_;refine aa.loop (κ:=Nat) ([7,9]++rg 79 19) (fun k=>[(79,.d (.int .i64 k)),(7,.own 3 1)]) (fun k=>[(3,.arr 1 (3,1) ((aO z.af ⟨cut,2⟩::aO z.af ⟨cut,8⟩::fK z.af cut (s.set.data.take k)).map (.int .i64)))]) (fun k=>k≤s.set.data.length) (fun k=>s.set.data.length - k) 0 (Nat.zero_le _) ?_ ?_
     ·(conv=>whnf);repeat (first | exact trivial | (refine sI ?_; conv=>whnf))
      refine And.intro rfl ?_;exact sZ
     intro k hk IH;have kz:=sY z.af cut (s.set.data.take k);rw [List.length_take] at kz;refine aa.head aj Tryz.func53 2000 ?_;(conv=>whnf);refine aw (fun h5=>?_) (fun h5=>?_)
     ·have oV:k<s.set.data.length:=by simpa using h5
      obtain ⟨d,hd⟩:=aY oV;have c2:=vh d.text cut (l5 d (List.mem_of_getElem? hd)) hc;have p1:=p1 d.text;have fg:=xF (l:=z.af) (c:=cut) hd;refine gO Tryz.func53 ?_;refine aF (e:=d.enc) (a7 hd) rfl ?_;refine gO Tryz.func53 ?_;refine aa.draw aj bW 7 2000 (by kernel_rfl) ?_;(conv=>whnf);refine bg (c2) ?_;refine gD ?_;refine gS ?_;refine gO Tryz.func53 ?_;cases hu:Nm.under d.text cut
      ·rw [hu,if_neg (by decide),List.append_nil] at fg;refine ba ?_;refine gO Tryz.func53 ?_;refine aa.back (IH (k+1) (by omega) (by omega)) ?_;rw [fg];exact sZ
      ·rw [hu,if_pos rfl] at fg;refine bq ?_;refine gO Tryz.func53 ?_
       with_reducible refine bR (p1) ?_
       refine gO Tryz.func53 ?_;refine bQ ⟨by simp; omega,by simp [DV.cells]⟩ ?_;refine gO Tryz.func53 ?_;refine aa.back (IH (k+1) (by omega) (by omega)) ?_;rw [fg];(conv=>whnf);repeat (first | exact trivial | (refine sI ?_; conv=>whnf))
       refine And.intro (by simp) ?_;exact sZ
     ·have aP:s.set.data.length≤k:=by simpa using h5
      rw [List.take_of_length_le aP];(conv=>whnf);refine aa.freeze 3 ?_;(conv=>whnf);refine gO Tryz.func53 ?_
      with_reducible refine bR (c4) ?_
      refine gO Tryz.func53 ?_;rw [oU];exact ⟨rfl,rfl⟩
    ·with_reducible refine bR (p6) ?_
     refine gO Tryz.func53 ?_;refine aI (decide_eq_false ai) ?_;(conv=>whnf);refine aa.run aj Tryz.func53 5 ?_;have oU:iJ z.af cut=cV (aO z.af ⟨cut,2⟩::aO z.af ⟨cut,6⟩::fK z.af cut s.set.data):=by
      rw [iJ,oS,if_neg ai,me,lY];rfl
     have c4:=mh z q cut true w 4 (aO z.af ⟨cut,2⟩::aO z.af ⟨cut,6⟩::fK z.af cut s.set.data) hf (fun p hp=>by
      rcases List.mem_cons.1 hp with rfl | hp
      ·exact ib.2
      rcases List.mem_cons.1 hp with rfl | hp
      ·exact ib.2
      exact xG hp) (by simp; omega)
     unfold bF bu at c4;(conv=>whnf);refine aa.qS aj rfl ?_;refine gO Tryz.func53 ?_;refine aF (e:=s.enc) ⟨h2,by rw [List.getElem?_map,hs]; rfl⟩ rfl ?_;refine gO Tryz.func53 ?_;refine aa.loop (κ:=Nat) ([7,9]++rg 79 19) (fun k=>[(79,.d (.int .i64 k)),(7,.own 3 1)]) (fun k=>[(3,.arr 1 (3,1) ((aO z.af ⟨cut,2⟩::aO z.af ⟨cut,6⟩::fK z.af cut (s.set.data.take k)).map (.int .i64)))]) (fun k=>k≤s.set.data.length) (fun k=>s.set.data.length - k) 0 (Nat.zero_le _) ?_ ?_
     ·(conv=>whnf);repeat (first | exact trivial | (refine sI ?_; conv=>whnf))
      refine And.intro rfl ?_;exact sZ
     intro k hk IH;have kz:=sY z.af cut (s.set.data.take k);rw [List.length_take] at kz;refine aa.head aj Tryz.func53 2000 ?_;(conv=>whnf);refine aw (fun h5=>?_) (fun h5=>?_)
     ·have oV:k<s.set.data.length:=by simpa using h5
      obtain ⟨d,hd⟩:=aY oV;have c2:=vh d.text cut (l5 d (List.mem_of_getElem? hd)) hc;have p1:=p1 d.text;have fg:=xF (l:=z.af) (c:=cut) hd;refine gO Tryz.func53 ?_;refine aF (e:=d.enc) (a7 hd) rfl ?_;refine gO Tryz.func53 ?_;refine aa.draw aj bW 7 2000 (by kernel_rfl) ?_;(conv=>whnf);refine bg (c2) ?_;refine gD ?_;refine gS ?_;refine gO Tryz.func53 ?_;cases hu:Nm.under d.text cut
      ·rw [hu,if_neg (by decide),List.append_nil] at fg;refine ba ?_;refine gO Tryz.func53 ?_;refine aa.back (IH (k+1) (by omega) (by omega)) ?_;rw [fg];exact sZ
      ·rw [hu,if_pos rfl] at fg;refine bq ?_;refine gO Tryz.func53 ?_
       with_reducible refine bR (p1) ?_
       refine gO Tryz.func53 ?_;refine bQ ⟨by simp; omega,by simp [DV.cells]⟩ ?_;refine gO Tryz.func53 ?_;refine aa.back (IH (k+1) (by omega) (by omega)) ?_;rw [fg];(conv=>whnf);repeat (first | exact trivial | (refine sI ?_; conv=>whnf))
       refine And.intro (by simp) ?_;exact sZ
     ·have aP:s.set.data.length≤k:=by simpa using h5
      rw [List.take_of_length_le aP];(conv=>whnf);refine aa.freeze 3 ?_;(conv=>whnf);refine gO Tryz.func53 ?_
      with_reducible refine bR (c4) ?_
      refine gO Tryz.func53 ?_;rw [oU];exact ⟨rfl,rfl⟩
end Go.Proofs.YtcmnpelmmekdkaaGreatDoor.P
end
section
namespace Go.Proofs.YtcmnpelmmekdkaaGreatDoor.P
open Go Go.ax
set_option maxRecDepth 100000
set_option maxHeartbeats 4000000
def H6 (a:ia):DV := .agg [.int .i64 a.kind,if a.kind=0∨a.kind=7 then .a8 else .sl (a.af.map Signed.enc),.str a.cut]
theorem Yt {z:aU} {q:aS} {cut:Text} {b:Bool} (hu:Nm.under q.name z.ab=true) (h1:b=true→lu z q.name=some cut) (h0:b=false→lu z q.name=none) (hs:nU q cut b=true):bO z q=ja z q:=by
 rw [bO,if_pos hu];cases b
 ·rw [h0 rfl]
 ·rw [h1 rfl];simp [nU] at hs;simp [hs]
theorem Yu {z:aU} {q:aS} {cut:Text} (hu:Nm.under q.name z.ab=true) (h1:lu z q.name=some cut) (hs:nU q cut true=false):bO z q=⟨4,dI z.af (iJ z.af cut),cut⟩:=by
 rw [bO,if_pos hu,h1];simp [nU] at hs;have:¬ (q.name=cut∧(q.type=6∨q.type=8)):=fun ⟨e1,e2⟩=>by
  have:=hs e1;omega
 simp [this]
theorem H7 {z:aU} (V:gd z) {n c:Text} (h:lu z n=some c):Nm.valid c=true∧0≤aO z.af ⟨c,2⟩:=by
 have hm:=List.mem_of_find?_eq_some h;obtain ⟨s,hs,e,hc⟩:=oH hm;have h2:=(H3 hm).1;refine ⟨e ▸ V.names s hs,?_⟩;rw [Nz] at h2
 simpa using h2
theorem Pb (l:List Signed):∀ (L:List Text),mW l L <:+ L
 | []=>List.suffix_refl _
 |x::r=>by
  unfold mW;split
  ·exact List.suffix_refl _
  ·exact (Pb l r).trans (List.suffix_cons _ _)
theorem Yv {t:Text}:∀ x∈Nm.labels t,(46:UInt8) ∉ x:=fun x hx=>by
 unfold Nm.labels at hx;split at hx
 ·cases hx
 ·exact Nm.Lr t x hx
theorem Yw {l:List Signed} {n w:Text} (h:rB l n=some w):Nm.valid w=true:=by
 have hM:∀ x∈[42]::mW l (Nm.labels n),(46:UInt8) ∉ x:=fun x hx=>by
  rcases List.mem_cons.1 hx with rfl | hx
  ·decide
  ·exact Yv x ((Pb l _).subset hx)
 unfold rB oR at h;generalize mW l (Nm.labels n)=r at *;have e:gL ([42]::r)=Nm.glue ([42]::r):=by simp [gL]
 rw [e] at h;split at h
 ·rename_i q;cases h;simp only [Bool.and_eq_true,decide_eq_true_eq] at q;have hs:Nm.split (Nm.glue ([42]::r))=[42]::r:=Nm.Ls _ (by simp) hM;simp [Nm.valid,hs,q.1,q.2]
 ·cases h
theorem H8 {p:Int} (h:0≤p):cV [p]=[p]:=by
 simp [cV,ic];omega
theorem Yx (a b:Int):cV [a,b,-1]=cV [a,b]:=by
 simp [cV,ic]
theorem Pc {z:aU} (V:gd z) (t:Int):¬ 0≤aO z.af ⟨[],t⟩:=fun h=>by
 obtain ⟨s,h1,h2⟩:=rA h;have e:=congrArg aS.name (uZ h2);have:=V.names s (List.mem_of_getElem? h1);simp only at e;rw [← e] at this;exact absurd this (by decide)
theorem Yy (z:aU) (q:aS) (hf:z.Fits) (hn:q.name.length≤maxLen):aA E 25 [z.enc,q.enc] (· = .aL [H6 (pQ z q),.int .i64 (pP z q)]):=by
 have c1:=Yg z q.name hf hn;unfold H4 at c1;by_cases hq:fp q=false∨eV z=false
 ·have h1:pP z q=1:=by
   rw [pP];rcases hq with h | h <;> simp [h]
  rw [pQ,h1,if_neg (by decide)];refine eP Tryz.func25 ?_;by_cases t1:q.type<1
  ·refine aM (decide_eq_true t1) ?_;refine gO Tryz.func25 ?_;refine bq ?_;refine gO Tryz.func25 ?_;rfl
  refine aI (decide_eq_false t1) ?_;refine gO Tryz.func25 ?_;by_cases t2:8<q.type
  ·refine aM (decide_eq_true t2) ?_;refine gO Tryz.func25 ?_;rfl
  refine aI (decide_eq_false t2) ?_;refine gO Tryz.func25 ?_;have e:(Nm.valid q.name&&eV z)=false:=by
   rcases hq with h | h
   ·have g1:1≤q.type:=by omega
    have g2:q.type≤8:=by omega
    simp [fp,g1,g2] at h;simp [h]
   ·simp [h]
  rw [e] at c1;refine ar (c1) ?_;refine gO Tryz.func25 ?_;refine ba ?_;refine gO Tryz.func25 ?_;refine bq ?_;refine gO Tryz.func25 ?_;rfl
 have h2:eV z=true:=by simpa using fun h=>hq (.inr h)
 have h3:fp q=true:=by simpa using fun h=>hq (.inl h)
 have hN:pP z q=0:=by simp [pP,h2,h3]
 have V:=lv h2;have hS:=On h2;simp only [fp,Bool.and_eq_true,decide_eq_true_eq] at h3;obtain ⟨h3,h4,h5⟩:=h3;rw [pQ,hN,if_pos rfl];rw [h2,h3] at c1;cases hu:Nm.under q.name z.ab
 ·rw [hu] at c1;have e:bO z q=⟨7,[],[]⟩:=by rw [bO,hu]; rfl
  rw [e];refine eP Tryz.func25 ?_;refine aI (decide_eq_false (by omega)) ?_;refine gO Tryz.func25 ?_;refine aI (decide_eq_false (by omega)) ?_;refine gO Tryz.func25 ?_;refine ar (c1) ?_;refine gO Tryz.func25 ?_;refine bq ?_;refine gO Tryz.func25 ?_;rfl
 rw [hu] at c1;obtain ⟨cut,b,k1,k2,k3⟩:∃ cut b,(b=true→lu z q.name=some cut)∧(b=false→lu z q.name=none)∧aA E 51 [z.enc,.str q.name] (· = .aL [.str cut,.bool b,.int .i64 0]):=by
  cases e:lu z q.name with
  |none=>rw [e] at c1; exact ⟨[],false,by simp,by simp,c1⟩
  |some c=>rw [e] at c1; exact ⟨c,true,by simp,by simp,c1⟩
 clear c1;have hv:=XG z q (by have:=V.len; omega);refine eP Tryz.func25 ?_;refine aI (decide_eq_false (by omega)) ?_;refine gO Tryz.func25 ?_;refine aI (decide_eq_false (by omega)) ?_;refine gO Tryz.func25 ?_;refine ar (k3) ?_;refine gO Tryz.func25 ?_;refine ba ?_;refine gO Tryz.func25 ?_;refine ba ?_;refine gO Tryz.func25 ?_;refine y7 (hv) rfl ?_;refine gO Tryz.func25 ?_;refine aa.Yr aj rfl rfl rfl rfl rfl rfl rfl rfl rfl ?_;refine gO Tryz.func25 ?_;refine aa.Ys aj rfl rfl rfl rfl rfl rfl (bh rfl) rfl ?_;refine gO Tryz.func25 ?_;refine aa.zj ?_;refine aa.run aj Tryz.func25 2000 ?_;(conv=>whnf);refine aM (by decide) ?_;refine gO Tryz.func25 ?_;refine aa.pV aj (n:=0) rfl rfl rfl rfl rfl rfl (bh rfl) (bh rfl) rfl (by decide) ?_;refine gO Tryz.func25 ?_;cases hs:nU q cut b
 ·obtain rfl:b=true:=by
   cases b
   ·simp [nU] at hs
   ·rfl
  obtain ⟨v1,v2⟩:=H7 V (k1 rfl);have r0:=Yp z q cut [] V hS v1 v2 hs;unfold bF bu at r0;rw [Yu hu (k1 rfl) hs]
  with_reducible refine bR (r0) ?_
  refine gO Tryz.func25 ?_;refine bq ?_;refine gO Tryz.func25 ?_;rfl
 have r0:=Yo z q cut b [] hs;unfold bF bu at r0;rw [Yt hu k1 k2 hs];clear k1 k2 k3 hs
 with_reducible refine bR (r0) ?_
 refine gO Tryz.func25 ?_;refine ba ?_;refine gO Tryz.func25 ?_;refine aa.again ?_;refine aa.run aj Tryz.func25 2000 ?_;(conv=>whnf);refine aM (by decide) ?_;refine gO Tryz.func25 ?_;refine aa.pV aj (n:=1) rfl rfl rfl rfl rfl rfl (bh rfl) (bh rfl) rfl (by decide) ?_;refine gO Tryz.func25 ?_;have r1:=XW z q cut b [] V hS;unfold bF bu at r1
 with_reducible refine bR (r1) ?_
 refine gO Tryz.func25 ?_;by_cases d1:0≤aO z.af q
 ·refine aM (by simpa using d1) ?_;refine gO Tryz.func25 ?_;rw [ja,if_pos d1,H8 d1];rfl
 refine aI (by simpa using d1) ?_;refine gO Tryz.func25 ?_;refine aa.again ?_;refine aa.run aj Tryz.func25 2000 ?_;(conv=>whnf);refine aM (by decide) ?_;refine gO Tryz.func25 ?_;refine aa.pV aj (n:=2) rfl rfl rfl rfl rfl rfl (bh rfl) (bh rfl) rfl (by decide) ?_;refine gO Tryz.func25 ?_;have r2:=XX z q cut b [] V hS;unfold bF bu at r2
 with_reducible refine bR (r2) ?_
 refine gO Tryz.func25 ?_;by_cases d2:0≤aO z.af ⟨q.name,3⟩∧q.type≠8
 ·refine aM (by simpa using d2) ?_;refine gO Tryz.func25 ?_;rw [ja,if_neg d1,if_pos d2,H8 d2.1];rfl
 refine aI (by simpa using d2) ?_;refine gO Tryz.func25 ?_;refine aa.again ?_;refine aa.run aj Tryz.func25 2000 ?_;(conv=>whnf);refine aM (by decide) ?_;refine gO Tryz.func25 ?_;refine aa.pV aj (n:=3) rfl rfl rfl rfl rfl rfl (bh rfl) (bh rfl) rfl (by decide) ?_;refine gO Tryz.func25 ?_;cases he:jA z.af q.name
 case true =>
  have r3:=Yk z q cut b [] V hS h3 he;unfold bF bu at r3
  with_reducible refine bR (r3) ?_
  refine gO Tryz.func25 ?_;refine bq ?_;refine gO Tryz.func25 ?_;rw [ja,if_neg d1,if_neg d2,if_pos he];rfl
 have r3:=Yl z q cut b [] V h3 hu he;unfold bF bu at r3;rw [ja,if_neg d1,if_neg d2,he,if_neg (by decide)];clear d1 d2 he r0 r1 r2;cases hw:rB z.af q.name with
 |none =>
  rw [hw] at r3;simp only [Option.getD_none] at r3;have r4:=OW z q cut b [] V hS h3;have r5:=OX z q cut b [] V hS h3;have r6:=O9 z q cut b [] V (.inl rfl);have r7:=OY z q cut b [] V hS h3 (.inl rfl);rw [if_pos rfl,Yx] at r7;unfold bF bu at r4 r5 r6 r7
  with_reducible refine bR (r3) ?_
  refine gO Tryz.func25 ?_;refine ba ?_;refine gO Tryz.func25 ?_;refine aa.again ?_;refine aa.run aj Tryz.func25 2000 ?_;(conv=>whnf);refine aM (by decide) ?_;refine gO Tryz.func25 ?_;refine aa.pV aj (n:=4) rfl rfl rfl rfl rfl rfl (bh rfl) (bh rfl) rfl (by decide) ?_;refine gO Tryz.func25 ?_
  with_reducible refine bR (r4) ?_
  refine gO Tryz.func25 ?_;refine aI (by simpa using Pc V q.type) ?_;refine gO Tryz.func25 ?_;refine aa.again ?_;refine aa.run aj Tryz.func25 2000 ?_;(conv=>whnf);refine aM (by decide) ?_;refine gO Tryz.func25 ?_;refine aa.pV aj (n:=5) rfl rfl rfl rfl rfl rfl (bh rfl) (bh rfl) rfl (by decide) ?_;refine gO Tryz.func25 ?_
  with_reducible refine bR (r5) ?_
  refine gO Tryz.func25 ?_;refine aI (by have:=Pc V 3; simp; omega) ?_;refine gO Tryz.func25 ?_;refine aa.again ?_;refine aa.run aj Tryz.func25 2000 ?_;(conv=>whnf);refine aM (by decide) ?_;refine gO Tryz.func25 ?_;refine aa.pV aj (n:=6) rfl rfl rfl rfl rfl rfl (bh rfl) (bh rfl) rfl (by decide) ?_;refine gO Tryz.func25 ?_
  with_reducible refine bR (r6) ?_
  refine gO Tryz.func25 ?_;refine ba ?_;refine gO Tryz.func25 ?_;refine aa.again ?_;refine aa.run aj Tryz.func25 2000 ?_;(conv=>whnf);refine aI (by decide) ?_;refine gO Tryz.func25 ?_
  with_reducible refine bR (r7) ?_
  refine gO Tryz.func25 ?_;rfl
 |some w =>
  rw [hw] at r3;simp only [Option.getD_some] at r3;have Ay:=Yw hw;have Yz:w≠[]:=fun e=>by rw [e] at Ay; exact absurd Ay (by decide)
  have r4:=OW z q cut b w V hS h3;have r5:=OX z q cut b w V hS h3;have r7:=OY z q cut b w V hS h3 (.inr Ay);rw [if_neg Yz] at r7;unfold bF bu at r4 r5 r7
  with_reducible refine bR (r3) ?_
  refine gO Tryz.func25 ?_;refine ba ?_;refine gO Tryz.func25 ?_;refine aa.again ?_;refine aa.run aj Tryz.func25 2000 ?_;(conv=>whnf);refine aM (by decide) ?_;refine gO Tryz.func25 ?_;refine aa.pV aj (n:=4) rfl rfl rfl rfl rfl rfl (bh rfl) (bh rfl) rfl (by decide) ?_;refine gO Tryz.func25 ?_
  with_reducible refine bR (r4) ?_
  refine gO Tryz.func25 ?_;by_cases d4:0≤aO z.af ⟨w,q.type⟩
  ·refine aM (by simpa using d4) ?_;refine gO Tryz.func25 ?_;simp only [if_pos d4];rfl
  refine aI (by simpa using d4) ?_;refine gO Tryz.func25 ?_;refine aa.again ?_;refine aa.run aj Tryz.func25 2000 ?_;(conv=>whnf);refine aM (by decide) ?_;refine gO Tryz.func25 ?_;refine aa.pV aj (n:=5) rfl rfl rfl rfl rfl rfl (bh rfl) (bh rfl) rfl (by decide) ?_;refine gO Tryz.func25 ?_
  with_reducible refine bR (r5) ?_
  refine gO Tryz.func25 ?_;by_cases d5:0≤aO z.af ⟨w,3⟩∧q.type≠8
  ·refine aM (by simpa using d5) ?_;refine gO Tryz.func25 ?_;simp only [if_neg d4,if_pos d5];rfl
  refine aI (by simpa using d5) ?_;refine gO Tryz.func25 ?_;refine aa.again ?_;refine aa.run aj Tryz.func25 2000 ?_;(conv=>whnf);refine aM (by decide) ?_;refine gO Tryz.func25 ?_;refine aa.pV aj (n:=6) rfl rfl rfl rfl rfl rfl (bh rfl) (bh rfl) rfl (by decide) ?_;refine gO Tryz.func25 ?_;cases he:jA z.af w
  case true =>
   have r6:=Ym z q cut b w V hS h3 Ay he;unfold bF bu at r6
   with_reducible refine bR (r6) ?_
   refine gO Tryz.func25 ?_;refine bq ?_;refine gO Tryz.func25 ?_;simp only [if_neg d4,if_neg d5,if_pos he];rfl
  have r6:=O9 z q cut b w V (.inr ⟨Ay,he⟩);unfold bF bu at r6
  with_reducible refine bR (r6) ?_
  refine gO Tryz.func25 ?_;refine ba ?_;refine gO Tryz.func25 ?_;refine aa.again ?_;refine aa.run aj Tryz.func25 2000 ?_;(conv=>whnf);refine aI (by decide) ?_;refine gO Tryz.func25 ?_
  with_reducible refine bR (r7) ?_
  refine gO Tryz.func25 ?_;simp only [if_neg d4,if_neg d5,he];rfl
end Go.Proofs.YtcmnpelmmekdkaaGreatDoor.P
end
