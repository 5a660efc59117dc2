/- Several texts of mine, one behind the other. Conditions: as each says. -/
import Derived.Test.YtfmdaiojokniiaaGreatDoorW40
set_option linter.unusedVariables false
set_option linter.unusedSimpArgs false
namespace Go.Proofs.YtfmdaiojokniiaaGreatDoor.P
open Go Go.aw
set_option maxRecDepth 100000
set_option maxHeartbeats 4000000
theorem Tx {s:dc} (h:fF s=true) (ht:s.type=2):∀ d∈s.data,Nm.valid d.text=true:=fun d hd=>by
 simp only [fF,Bool.and_eq_true] at h;have:=CP h.2 d hd;rw [ht] at this;simp only [rK,Bool.and_eq_true] at this;have:=this.2;simp [wE,nu] at this;exact this.1
def fb (l:List Signed) (c:Text) (D:List Datum):List Int:=(D.filter fun d=>Nm.under d.text c).map fun d=>aO l ⟨d.text,1⟩
theorem uo {l:List Signed} {c:Text} {D:List Datum} {k:Nat} {d:Datum} (h:D[k]? = some d):fb l c (D.take (k+1))=fb l c (D.take k)++(if Nm.under d.text c then [aO l ⟨d.text,1⟩] else []):=by
 rw [dm h];unfold fb;rw [List.filter_append,List.map_append];cases e:Nm.under d.text c <;> simp [e]
theorem sf (l:List Signed) (c:Text) (D:List Datum):(fb l c D).length≤D.length:=by
 unfold fb;rw [List.length_map];exact List.length_filter_le _ _
theorem uq {l:List Signed} {c:Text} {D:List Datum} {p:Int} (h:p∈fb l c D):p<l.length:=by
 simp only [fb,List.mem_map] at h;obtain ⟨d,-,rfl⟩:=h;exact fJ.2
def lV (q:br) (cut:Text) (b:Bool):Bool := !b||(decide (q.name=cut)&&(decide (q.type=6)||decide (q.type=8)))
theorem Ty (z:aF) (q:br) (cut:Text) (b:Bool) (w:Text) (hb:lV q cut b=true):aq E 157 [bo z q cut b w,aZ z] [.ptr 0 0] (fun x h=>x = .az [.d D5,.d (.bool false)]∧h=[bo z q cut b w,aZ z]):=by
 apply aq.jD
 case hk=>rfl
 case hc =>
  unfold bo aZ;by_cases h6:q.type=6
  ·refine aq.run ag (fn:=Tryz.f157) Tryz.func157 (body:=Tryz.f157.body.getD .skip) rfl (by decide) 2000 rfl ?_;(conv=>whnf);refine bg (by simpa using h6) ?_;refine gO Tryz.func157 ?_;cases b
   ·refine I.bU ag bV 2000 (by kernel_rfl) ?_;(conv=>whnf);refine aY ?_;refine gD ?_;refine gO Tryz.func157 ?_;refine aY ?_;refine gO Tryz.func157 ?_;exact ⟨rfl,rfl⟩
   ·have hn:q.name=cut:=by simpa [lV,h6] using hb
    refine I.bU ag bV 2000 (by kernel_rfl) ?_;(conv=>whnf);refine aN ?_;refine gD ?_;refine bg (by simpa using hn) ?_;refine gD ?_;refine gO Tryz.func157 ?_;refine aY ?_;refine gO Tryz.func157 ?_;exact ⟨rfl,rfl⟩
  ·refine aq.run ag (fn:=Tryz.f157) Tryz.func157 (body:=Tryz.f157.body.getD .skip) rfl (by decide) 2000 rfl ?_;(conv=>whnf);refine aW (by simpa using h6) ?_;refine gO Tryz.func157 ?_;cases b
   ·refine I.bU ag bV 2000 (by kernel_rfl) ?_;(conv=>whnf);refine aY ?_;refine gD ?_;refine gO Tryz.func157 ?_;refine aY ?_;refine gO Tryz.func157 ?_;exact ⟨rfl,rfl⟩
   ·have hn:q.name=cut∧q.type=8:=by simpa [lV,h6] using hb
    refine I.bU ag bV 2000 (by kernel_rfl) ?_;(conv=>whnf);refine aN ?_;refine gD ?_;refine bg (by simpa using hn.1) ?_;refine gD ?_;refine gO Tryz.func157 ?_;refine bg (by simpa using hn.2) ?_;refine gO Tryz.func157 ?_;exact ⟨rfl,rfl⟩
theorem Tz (z:aF) (q:br) (cut:Text) (w:Text) (V:gd z) (hf:z.jA) (hc:Nm.valid cut=true) (h2:0≤aO z.ae ⟨cut,2⟩) (hb:lV q cut true=false):aq E 157 [bo z q cut true w,aZ z] [.ptr 0 0] (fun x h=>x = .az [.d (mE 4 (dn z.ae (jF z.ae cut)) cut),.d (.bool true)]∧h=[bo z q cut true w,aZ z]):=by
 have p2:=oX z q cut true w cut 2 V.sorted;have p6:=oX z q cut true w cut 6 V.sorted;have p8:=oX z q cut true w cut 8 V.sorted;have p1:=fun n=>oX z q cut true w n 1 V.sorted;have mL:=(fJ (l:=z.ae) (q:=⟨cut,2⟩)).2;obtain ⟨s,hs,gU⟩:=DT h2;have iS:=Tx (V.ae s (List.mem_of_getElem? hs)) (congrArg br.type (DU gU)).symm;have VZ:=(y0 (V.ae s (List.mem_of_getElem? hs))).2.1;have V0:=sf z.ae cut s.set.data;have jc:xp z.ae cut=s.set.data:=by rw [xp,hs]
 unfold bo aZ at p2 p6 p8 p1;apply aq.jD
 case hk=>rfl
 case hc =>
  unfold bo aZ;by_cases h6:q.type=6
  ·have hn:q.name≠cut:=fun e=>by simp [lV,h6,e] at hb
   refine aq.run ag (fn:=Tryz.f157) Tryz.func157 (body:=Tryz.f157.body.getD .skip) rfl (by decide) 2000 rfl ?_;(conv=>whnf);refine bg (by simpa using h6) ?_;refine gO Tryz.func157 ?_;refine I.bU ag bV 2000 (by kernel_rfl) ?_;(conv=>whnf);refine aN ?_;refine gD ?_;refine aW (by simpa using hn) ?_;refine gD ?_;refine gO Tryz.func157 ?_;refine aN ?_;refine gO Tryz.func157 ?_
   with_reducible refine bC (p2) ?_
   refine gO Tryz.func157 ?_;by_cases ah:aO z.ae ⟨cut,6⟩<0
   ·with_reducible refine bC (p6) ?_
    refine gO Tryz.func157 ?_;refine bg (decide_eq_true ah) ?_;refine gO Tryz.func157 ?_
    with_reducible refine bC p8 ?_
    (conv=>whnf);refine I.run ag Tryz.func157 6 ?_;have mF:jF z.ae cut=cz (aO z.ae ⟨cut,2⟩::aO z.ae ⟨cut,8⟩::fb z.ae cut s.set.data):=by
     rw [jF,qj,if_pos ah,nN,jc];rfl
    have c4:=kl z q cut true w 4 (aO z.ae ⟨cut,2⟩::aO z.ae ⟨cut,8⟩::fb z.ae cut s.set.data) hf (fun p hp=>by
     rcases List.mem_cons.1 hp with rfl | hp
     ·exact fJ.2
     rcases List.mem_cons.1 hp with rfl | hp
     ·exact fJ.2
     exact uq hp) (by simp; omega)
    unfold bo aZ at c4;(conv=>whnf);refine I.ox ag rfl ?_;refine gO Tryz.func157 ?_;refine aT (e:=s.enc) ⟨h2,by rw [List.getElem?_map,hs]; rfl⟩ rfl ?_;refine gO Tryz.func157 ?_;refine I.loop (κ:=Nat) ([7,9]++rg 79 19) (fun k=>[(79,.d (.int .i64 k)),(7,.own 3 1)]) (fun k=>[(3,.arr 1 (3,1) ((aO z.ae ⟨cut,2⟩::aO z.ae ⟨cut,8⟩::fb z.ae cut (s.set.data.take k)).map (.int .i64)))]) (fun k=>k≤s.set.data.length) (fun k=>s.set.data.length - k) 0 (Nat.zero_le _) ?_ ?_
    ·(conv=>whnf);repeat (first | exact trivial | (refine sI ?_; conv=>whnf))
     refine And.intro rfl ?_;exact sZ
    intro k hk IH;have iu:=sf z.ae cut (s.set.data.take k);rw [List.length_take] at iu;refine I.head ag Tryz.func157 2000 ?_;(conv=>whnf);refine aj (fun h5=>?_) (fun h5=>?_)
    ·have mG:k<s.set.data.length:=by simpa using h5
     obtain ⟨d,hd⟩:=aU mG;have c2:=sd d.text cut (iS d (List.mem_of_getElem? hd)) hc;have p1:=p1 d.text;have er:=uo (l:=z.ae) (c:=cut) hd;refine gO Tryz.func157 ?_;refine aT (e:=d.enc) (bu hd) rfl ?_;refine gO Tryz.func157 ?_;refine I.bU ag bV 2000 (by kernel_rfl) ?_;(conv=>whnf);refine aR (c2) ?_;refine gD ?_;refine gO Tryz.func157 ?_;cases hu:Nm.under d.text cut
     ·rw [hu,if_neg (by decide),List.append_nil] at er;refine aN ?_;refine gO Tryz.func157 ?_;refine I.back (IH (k+1) (by omega) (by omega)) ?_;rw [er];exact sZ
     ·rw [hu,if_pos rfl] at er;refine aY ?_;refine gO Tryz.func157 ?_
      with_reducible refine bC (p1) ?_
      refine gO Tryz.func157 ?_;refine bp ⟨by simp; omega,by simp [DV.cells]⟩ ?_;refine gO Tryz.func157 ?_;refine I.back (IH (k+1) (by omega) (by omega)) ?_;rw [er];(conv=>whnf);repeat (first | exact trivial | (refine sI ?_; conv=>whnf))
      refine And.intro (by simp) ?_;exact sZ
    ·have aK:s.set.data.length≤k:=by simpa using h5
     rw [List.take_of_length_le aK];(conv=>whnf);refine I.freeze 3 ?_;(conv=>whnf);refine gO Tryz.func157 ?_
     with_reducible refine bC (c4) ?_
     refine gO Tryz.func157 ?_;rw [mF];exact ⟨rfl,rfl⟩
   ·with_reducible refine bC (p6) ?_
    refine gO Tryz.func157 ?_;refine aW (decide_eq_false ah) ?_;(conv=>whnf);refine I.run ag Tryz.func157 5 ?_;have mF:jF z.ae cut=cz (aO z.ae ⟨cut,2⟩::aO z.ae ⟨cut,6⟩::fb z.ae cut s.set.data):=by
     rw [jF,qj,if_neg ah,nN,jc];rfl
    have c4:=kl z q cut true w 4 (aO z.ae ⟨cut,2⟩::aO z.ae ⟨cut,6⟩::fb z.ae cut s.set.data) hf (fun p hp=>by
     rcases List.mem_cons.1 hp with rfl | hp
     ·exact fJ.2
     rcases List.mem_cons.1 hp with rfl | hp
     ·exact fJ.2
     exact uq hp) (by simp; omega)
    unfold bo aZ at c4;(conv=>whnf);refine I.ox ag rfl ?_;refine gO Tryz.func157 ?_;refine aT (e:=s.enc) ⟨h2,by rw [List.getElem?_map,hs]; rfl⟩ rfl ?_;refine gO Tryz.func157 ?_;refine I.loop (κ:=Nat) ([7,9]++rg 79 19) (fun k=>[(79,.d (.int .i64 k)),(7,.own 3 1)]) (fun k=>[(3,.arr 1 (3,1) ((aO z.ae ⟨cut,2⟩::aO z.ae ⟨cut,6⟩::fb z.ae cut (s.set.data.take k)).map (.int .i64)))]) (fun k=>k≤s.set.data.length) (fun k=>s.set.data.length - k) 0 (Nat.zero_le _) ?_ ?_
    ·(conv=>whnf);repeat (first | exact trivial | (refine sI ?_; conv=>whnf))
     refine And.intro rfl ?_;exact sZ
    intro k hk IH;have iu:=sf z.ae cut (s.set.data.take k);rw [List.length_take] at iu;refine I.head ag Tryz.func157 2000 ?_;(conv=>whnf);refine aj (fun h5=>?_) (fun h5=>?_)
    ·have mG:k<s.set.data.length:=by simpa using h5
     obtain ⟨d,hd⟩:=aU mG;have c2:=sd d.text cut (iS d (List.mem_of_getElem? hd)) hc;have p1:=p1 d.text;have er:=uo (l:=z.ae) (c:=cut) hd;refine gO Tryz.func157 ?_;refine aT (e:=d.enc) (bu hd) rfl ?_;refine gO Tryz.func157 ?_;refine I.bU ag bV 2000 (by kernel_rfl) ?_;(conv=>whnf);refine aR (c2) ?_;refine gD ?_;refine gO Tryz.func157 ?_;cases hu:Nm.under d.text cut
     ·rw [hu,if_neg (by decide),List.append_nil] at er;refine aN ?_;refine gO Tryz.func157 ?_;refine I.back (IH (k+1) (by omega) (by omega)) ?_;rw [er];exact sZ
     ·rw [hu,if_pos rfl] at er;refine aY ?_;refine gO Tryz.func157 ?_
      with_reducible refine bC (p1) ?_
      refine gO Tryz.func157 ?_;refine bp ⟨by simp; omega,by simp [DV.cells]⟩ ?_;refine gO Tryz.func157 ?_;refine I.back (IH (k+1) (by omega) (by omega)) ?_;rw [er];(conv=>whnf);repeat (first | exact trivial | (refine sI ?_; conv=>whnf))
      refine And.intro (by simp) ?_;exact sZ
    ·have aK:s.set.data.length≤k:=by simpa using h5
     rw [List.take_of_length_le aK];(conv=>whnf);refine I.freeze 3 ?_;(conv=>whnf);refine gO Tryz.func157 ?_
     with_reducible refine bC (c4) ?_
     refine gO Tryz.func157 ?_;rw [mF];exact ⟨rfl,rfl⟩
  ·by_cases hn:q.name=cut
   ·have h8:q.type≠8:=fun e=>by simp [lV,hn,e] at hb
    refine aq.run ag (fn:=Tryz.f157) Tryz.func157 (body:=Tryz.f157.body.getD .skip) rfl (by decide) 2000 rfl ?_;(conv=>whnf);refine aW (by simpa using h6) ?_;refine gO Tryz.func157 ?_;refine I.bU ag bV 2000 (by kernel_rfl) ?_;(conv=>whnf);refine aN ?_;refine gD ?_;refine bg (by simpa using hn) ?_;refine gD ?_;refine gO Tryz.func157 ?_;refine aW (by simpa using h8) ?_;refine gO Tryz.func157 ?_
    with_reducible refine bC (p2) ?_
    refine gO Tryz.func157 ?_;by_cases ah:aO z.ae ⟨cut,6⟩<0
    ·with_reducible refine bC (p6) ?_
     refine gO Tryz.func157 ?_;refine bg (decide_eq_true ah) ?_;refine gO Tryz.func157 ?_
     with_reducible refine bC p8 ?_
     (conv=>whnf);refine I.run ag Tryz.func157 6 ?_;have mF:jF z.ae cut=cz (aO z.ae ⟨cut,2⟩::aO z.ae ⟨cut,8⟩::fb z.ae cut s.set.data):=by
      rw [jF,qj,if_pos ah,nN,jc];rfl
     have c4:=kl z q cut true w 4 (aO z.ae ⟨cut,2⟩::aO z.ae ⟨cut,8⟩::fb z.ae cut s.set.data) hf (fun p hp=>by
      rcases List.mem_cons.1 hp with rfl | hp
      ·exact fJ.2
      rcases List.mem_cons.1 hp with rfl | hp
      ·exact fJ.2
      exact uq hp) (by simp; omega)
     unfold bo aZ at c4;(conv=>whnf);refine I.ox ag rfl ?_;refine gO Tryz.func157 ?_;refine aT (e:=s.enc) ⟨h2,by rw [List.getElem?_map,hs]; rfl⟩ rfl ?_;refine gO Tryz.func157 ?_;refine I.loop (κ:=Nat) ([7,9]++rg 79 19) (fun k=>[(79,.d (.int .i64 k)),(7,.own 3 1)]) (fun k=>[(3,.arr 1 (3,1) ((aO z.ae ⟨cut,2⟩::aO z.ae ⟨cut,8⟩::fb z.ae cut (s.set.data.take k)).map (.int .i64)))]) (fun k=>k≤s.set.data.length) (fun k=>s.set.data.length - k) 0 (Nat.zero_le _) ?_ ?_
     ·(conv=>whnf);repeat (first | exact trivial | (refine sI ?_; conv=>whnf))
      refine And.intro rfl ?_;exact sZ
     intro k hk IH;have iu:=sf z.ae cut (s.set.data.take k);rw [List.length_take] at iu;refine I.head ag Tryz.func157 2000 ?_;(conv=>whnf);refine aj (fun h5=>?_) (fun h5=>?_)
     ·have mG:k<s.set.data.length:=by simpa using h5
      obtain ⟨d,hd⟩:=aU mG;have c2:=sd d.text cut (iS d (List.mem_of_getElem? hd)) hc;have p1:=p1 d.text;have er:=uo (l:=z.ae) (c:=cut) hd;refine gO Tryz.func157 ?_;refine aT (e:=d.enc) (bu hd) rfl ?_;refine gO Tryz.func157 ?_;refine I.bU ag bV 2000 (by kernel_rfl) ?_;(conv=>whnf);refine aR (c2) ?_;refine gD ?_;refine gO Tryz.func157 ?_;cases hu:Nm.under d.text cut
      ·rw [hu,if_neg (by decide),List.append_nil] at er;refine aN ?_;refine gO Tryz.func157 ?_;refine I.back (IH (k+1) (by omega) (by omega)) ?_;rw [er];exact sZ
      ·rw [hu,if_pos rfl] at er;refine aY ?_;refine gO Tryz.func157 ?_
       with_reducible refine bC (p1) ?_
       refine gO Tryz.func157 ?_;refine bp ⟨by simp; omega,by simp [DV.cells]⟩ ?_;refine gO Tryz.func157 ?_;refine I.back (IH (k+1) (by omega) (by omega)) ?_;rw [er];(conv=>whnf);repeat (first | exact trivial | (refine sI ?_; conv=>whnf))
       refine And.intro (by simp) ?_;exact sZ
     ·have aK:s.set.data.length≤k:=by simpa using h5
      rw [List.take_of_length_le aK];(conv=>whnf);refine I.freeze 3 ?_;(conv=>whnf);refine gO Tryz.func157 ?_
      with_reducible refine bC (c4) ?_
      refine gO Tryz.func157 ?_;rw [mF];exact ⟨rfl,rfl⟩
    ·with_reducible refine bC (p6) ?_
     refine gO Tryz.func157 ?_;refine aW (decide_eq_false ah) ?_;(conv=>whnf);refine I.run ag Tryz.func157 5 ?_;have mF:jF z.ae cut=cz (aO z.ae ⟨cut,2⟩::aO z.ae ⟨cut,6⟩::fb z.ae cut s.set.data):=by
      rw [jF,qj,if_neg ah,nN,jc];rfl
     have c4:=kl z q cut true w 4 (aO z.ae ⟨cut,2⟩::aO z.ae ⟨cut,6⟩::fb z.ae cut s.set.data) hf (fun p hp=>by
      rcases List.mem_cons.1 hp with rfl | hp
      ·exact fJ.2
      rcases List.mem_cons.1 hp with rfl | hp
      ·exact fJ.2
      exact uq hp) (by simp; omega)
     unfold bo aZ at c4;(conv=>whnf);refine I.ox ag rfl ?_;refine gO Tryz.func157 ?_;refine aT (e:=s.enc) ⟨h2,by rw [List.getElem?_map,hs]; rfl⟩ rfl ?_;refine gO Tryz.func157 ?_;refine I.loop (κ:=Nat) ([7,9]++rg 79 19) (fun k=>[(79,.d (.int .i64 k)),(7,.own 3 1)]) (fun k=>[(3,.arr 1 (3,1) ((aO z.ae ⟨cut,2⟩::aO z.ae ⟨cut,6⟩::fb z.ae cut (s.set.data.take k)).map (.int .i64)))]) (fun k=>k≤s.set.data.length) (fun k=>s.set.data.length - k) 0 (Nat.zero_le _) ?_ ?_
     ·(conv=>whnf);repeat (first | exact trivial | (refine sI ?_; conv=>whnf))
      refine And.intro rfl ?_;exact sZ
     intro k hk IH;have iu:=sf z.ae cut (s.set.data.take k);rw [List.length_take] at iu;refine I.head ag Tryz.func157 2000 ?_;(conv=>whnf);refine aj (fun h5=>?_) (fun h5=>?_)
     ·have mG:k<s.set.data.length:=by simpa using h5
      obtain ⟨d,hd⟩:=aU mG;have c2:=sd d.text cut (iS d (List.mem_of_getElem? hd)) hc;have p1:=p1 d.text;have er:=uo (l:=z.ae) (c:=cut) hd;refine gO Tryz.func157 ?_;refine aT (e:=d.enc) (bu hd) rfl ?_;refine gO Tryz.func157 ?_;refine I.bU ag bV 2000 (by kernel_rfl) ?_;(conv=>whnf);refine aR (c2) ?_;refine gD ?_;refine gO Tryz.func157 ?_;cases hu:Nm.under d.text cut
      ·rw [hu,if_neg (by decide),List.append_nil] at er;refine aN ?_;refine gO Tryz.func157 ?_;refine I.back (IH (k+1) (by omega) (by omega)) ?_;rw [er];exact sZ
      ·rw [hu,if_pos rfl] at er;refine aY ?_;refine gO Tryz.func157 ?_
       with_reducible refine bC (p1) ?_
       refine gO Tryz.func157 ?_;refine bp ⟨by simp; omega,by simp [DV.cells]⟩ ?_;refine gO Tryz.func157 ?_;refine I.back (IH (k+1) (by omega) (by omega)) ?_;rw [er];(conv=>whnf);repeat (first | exact trivial | (refine sI ?_; conv=>whnf))
       refine And.intro (by simp) ?_;exact sZ
     ·have aK:s.set.data.length≤k:=by simpa using h5
      rw [List.take_of_length_le aK];(conv=>whnf);refine I.freeze 3 ?_;(conv=>whnf);refine gO Tryz.func157 ?_
      with_reducible refine bC (c4) ?_
      refine gO Tryz.func157 ?_;rw [mF];exact ⟨rfl,rfl⟩
   ·refine aq.run ag (fn:=Tryz.f157) Tryz.func157 (body:=Tryz.f157.body.getD .skip) rfl (by decide) 2000 rfl ?_;(conv=>whnf);refine aW (by simpa using h6) ?_;refine gO Tryz.func157 ?_;refine I.bU ag bV 2000 (by kernel_rfl) ?_;(conv=>whnf);refine aN ?_;refine gD ?_;refine aW (by simpa using hn) ?_;refine gD ?_;refine gO Tryz.func157 ?_;refine aN ?_;refine gO Tryz.func157 ?_
    with_reducible refine bC (p2) ?_
    refine gO Tryz.func157 ?_;by_cases ah:aO z.ae ⟨cut,6⟩<0
    ·with_reducible refine bC (p6) ?_
     refine gO Tryz.func157 ?_;refine bg (decide_eq_true ah) ?_;refine gO Tryz.func157 ?_
     with_reducible refine bC p8 ?_
     (conv=>whnf);refine I.run ag Tryz.func157 6 ?_;have mF:jF z.ae cut=cz (aO z.ae ⟨cut,2⟩::aO z.ae ⟨cut,8⟩::fb z.ae cut s.set.data):=by
      rw [jF,qj,if_pos ah,nN,jc];rfl
     have c4:=kl z q cut true w 4 (aO z.ae ⟨cut,2⟩::aO z.ae ⟨cut,8⟩::fb z.ae cut s.set.data) hf (fun p hp=>by
      rcases List.mem_cons.1 hp with rfl | hp
      ·exact fJ.2
      rcases List.mem_cons.1 hp with rfl | hp
      ·exact fJ.2
      exact uq hp) (by simp; omega)
     unfold bo aZ at c4;(conv=>whnf);refine I.ox ag rfl ?_;refine gO Tryz.func157 ?_;refine aT (e:=s.enc) ⟨h2,by rw [List.getElem?_map,hs]; rfl⟩ rfl ?_;refine gO Tryz.func157 ?_;refine I.loop (κ:=Nat) ([7,9]++rg 79 19) (fun k=>[(79,.d (.int .i64 k)),(7,.own 3 1)]) (fun k=>[(3,.arr 1 (3,1) ((aO z.ae ⟨cut,2⟩::aO z.ae ⟨cut,8⟩::fb z.ae cut (s.set.data.take k)).map (.int .i64)))]) (fun k=>k≤s.set.data.length) (fun k=>s.set.data.length - k) 0 (Nat.zero_le _) ?_ ?_
     ·(conv=>whnf);repeat (first | exact trivial | (refine sI ?_; conv=>whnf))
      refine And.intro rfl ?_;exact sZ
     intro k hk IH;have iu:=sf z.ae cut (s.set.data.take k);rw [List.length_take] at iu;refine I.head ag Tryz.func157 2000 ?_;(conv=>whnf);refine aj (fun h5=>?_) (fun h5=>?_)
     ·have mG:k<s.set.data.length:=by simpa using h5
      obtain ⟨d,hd⟩:=aU mG;have c2:=sd d.text cut (iS d (List.mem_of_getElem? hd)) hc;have p1:=p1 d.text;have er:=uo (l:=z.ae) (c:=cut) hd;refine gO Tryz.func157 ?_;refine aT (e:=d.enc) (bu hd) rfl ?_;refine gO Tryz.func157 ?_;refine I.bU ag bV 2000 (by kernel_rfl) ?_;(conv=>whnf);refine aR (c2) ?_;refine gD ?_;refine gO Tryz.func157 ?_;cases hu:Nm.under d.text cut
      ·rw [hu,if_neg (by decide),List.append_nil] at er;refine aN ?_;refine gO Tryz.func157 ?_;refine I.back (IH (k+1) (by omega) (by omega)) ?_;rw [er];exact sZ
      ·rw [hu,if_pos rfl] at er;refine aY ?_;refine gO Tryz.func157 ?_
       with_reducible refine bC (p1) ?_
       refine gO Tryz.func157 ?_;refine bp ⟨by simp; omega,by simp [DV.cells]⟩ ?_;refine gO Tryz.func157 ?_;refine I.back (IH (k+1) (by omega) (by omega)) ?_;rw [er];(conv=>whnf);repeat (first | exact trivial | (refine sI ?_; conv=>whnf))
       refine And.intro (by simp) ?_;exact sZ
     ·have aK:s.set.data.length≤k:=by simpa using h5
      rw [List.take_of_length_le aK];(conv=>whnf);refine I.freeze 3 ?_;(conv=>whnf);refine gO Tryz.func157 ?_
      with_reducible refine bC (c4) ?_
      refine gO Tryz.func157 ?_;rw [mF];exact ⟨rfl,rfl⟩
    ·with_reducible refine bC (p6) ?_
     refine gO Tryz.func157 ?_;refine aW (decide_eq_false ah) ?_;(conv=>whnf);refine I.run ag Tryz.func157 5 ?_;have mF:jF z.ae cut=cz (aO z.ae ⟨cut,2⟩::aO z.ae ⟨cut,6⟩::fb z.ae cut s.set.data):=by
      rw [jF,qj,if_neg ah,nN,jc];rfl
     have c4:=kl z q cut true w 4 (aO z.ae ⟨cut,2⟩::aO z.ae ⟨cut,6⟩::fb z.ae cut s.set.data) hf (fun p hp=>by
      rcases List.mem_cons.1 hp with rfl | hp
      ·exact fJ.2
      rcases List.mem_cons.1 hp with rfl | hp
      ·exact fJ.2
      exact uq hp) (by simp; omega)
     unfold bo aZ at c4;(conv=>whnf);refine I.ox ag rfl ?_;refine gO Tryz.func157 ?_;refine aT (e:=s.enc) ⟨h2,by rw [List.getElem?_map,hs]; rfl⟩ rfl ?_;refine gO Tryz.func157 ?_;refine I.loop (κ:=Nat) ([7,9]++rg 79 19) (fun k=>[(79,.d (.int .i64 k)),(7,.own 3 1)]) (fun k=>[(3,.arr 1 (3,1) ((aO z.ae ⟨cut,2⟩::aO z.ae ⟨cut,6⟩::fb z.ae cut (s.set.data.take k)).map (.int .i64)))]) (fun k=>k≤s.set.data.length) (fun k=>s.set.data.length - k) 0 (Nat.zero_le _) ?_ ?_
     ·(conv=>whnf);repeat (first | exact trivial | (refine sI ?_; conv=>whnf))
      refine And.intro rfl ?_;exact sZ
     intro k hk IH;have iu:=sf z.ae cut (s.set.data.take k);rw [List.length_take] at iu;refine I.head ag Tryz.func157 2000 ?_;(conv=>whnf);refine aj (fun h5=>?_) (fun h5=>?_)
     ·have mG:k<s.set.data.length:=by simpa using h5
      obtain ⟨d,hd⟩:=aU mG;have c2:=sd d.text cut (iS d (List.mem_of_getElem? hd)) hc;have p1:=p1 d.text;have er:=uo (l:=z.ae) (c:=cut) hd;refine gO Tryz.func157 ?_;refine aT (e:=d.enc) (bu hd) rfl ?_;refine gO Tryz.func157 ?_;refine I.bU ag bV 2000 (by kernel_rfl) ?_;(conv=>whnf);refine aR (c2) ?_;refine gD ?_;refine gO Tryz.func157 ?_;cases hu:Nm.under d.text cut
      ·rw [hu,if_neg (by decide),List.append_nil] at er;refine aN ?_;refine gO Tryz.func157 ?_;refine I.back (IH (k+1) (by omega) (by omega)) ?_;rw [er];exact sZ
      ·rw [hu,if_pos rfl] at er;refine aY ?_;refine gO Tryz.func157 ?_
       with_reducible refine bC (p1) ?_
       refine gO Tryz.func157 ?_;refine bp ⟨by simp; omega,by simp [DV.cells]⟩ ?_;refine gO Tryz.func157 ?_;refine I.back (IH (k+1) (by omega) (by omega)) ?_;rw [er];(conv=>whnf);repeat (first | exact trivial | (refine sI ?_; conv=>whnf))
       refine And.intro (by simp) ?_;exact sZ
     ·have aK:s.set.data.length≤k:=by simpa using h5
      rw [List.take_of_length_le aK];(conv=>whnf);refine I.freeze 3 ?_;(conv=>whnf);refine gO Tryz.func157 ?_
      with_reducible refine bC (c4) ?_
      refine gO Tryz.func157 ?_;rw [mF];exact ⟨rfl,rfl⟩
end Go.Proofs.YtfmdaiojokniiaaGreatDoor.P
