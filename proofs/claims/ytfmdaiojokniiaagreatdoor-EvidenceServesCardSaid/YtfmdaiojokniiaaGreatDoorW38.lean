/- Several texts of mine, one behind the other. Conditions: as each says. -/
import Derived.Test.YtfmdaiojokniiaaGreatDoorW37
set_option linter.unusedVariables false
set_option linter.unusedSimpArgs false
section
namespace Go.Proofs.YtfmdaiojokniiaaGreatDoor.P
open Go Go.aw
set_option maxRecDepth 100000
set_option maxHeartbeats 4000000
def mE (k:Int) (l:List Signed) (c:Text):DV := .agg [.int .i64 k,.sl (l.map Signed.enc),.str c]
theorem SY {z:aF} {ps:List Int} {k:Nat} {p:Int} (hp:ps[k]? = some p) {s:Signed} (h0:0≤p) (hs:z.ae[p.toNat]? = some s):dn z.ae (cz (ps.take (k+1)))=if p∈ps.take k then dn z.ae (cz (ps.take k)) else dn z.ae (cz (ps.take k))++[s]:=by
 rw [JB hp,SF h0 hs];have:p∈cz (ps.take k)↔p∈ps.take k:=by rw [SC]; exact ⟨fun h=>h.2,fun h=>⟨h0,h⟩⟩
 by_cases e:p∈ps.take k
 ·rw [if_pos e,if_pos (this.2 e)]
 ·rw [if_neg e,if_neg (fun h=>e (this.1 h))]
theorem SZ {ps:List Int} {k:Nat} {p:Int} (hp:ps[k]? = some p) (h0:p<0):cz (ps.take (k+1))=cz (ps.take k):=by
 rw [JB hp,gb,if_pos (.inl h0)]
theorem S0 (z:aF) (q:br) (cut:Text) (b:Bool) (w:Text) (kind:Int) (ps:List Int) (hf:z.jA) (fz:∀ p∈ps,p<z.ae.length) (hl:ps.length≤1000):aq E 238 [bo z q cut b w,aZ z] [.ptr 0 0,.d (.int .i64 kind),.d (.sl (ps.map (.int .i64)))] (fun x h=>x = .d (mE kind (dn z.ae (cz ps)) [])∧h=[bo z q cut b w,aZ z,.cells [.d (.int .i64 kind),.d (.sl ((dn z.ae (cz ps)).map Signed.enc)),.d (.str [])],.cells [.d (.int .i64 kind),.d (.sl ((dn z.ae (cz ps)).map Signed.enc)),.d (.str [])],.gone]):=by
 obtain ⟨tr,gU⟩:=hf;unfold bo aZ mE;refine aq.run ag (fn:=Tryz.f238) Tryz.func238 (body:=Tryz.f238.body.getD .skip) rfl (by decide) 2000 rfl ?_;(conv=>whnf);refine I.np 3 1 (102,5) (by decide) rfl rfl ?_;(conv=>whnf);refine I.loop (κ:=Nat) ([8,9,10]++rg 15 38) (fun k=>[(15,.d (.int .i64 k))]) (fun k=>[(3,.cells [.d (.int .i64 kind),.own 4 1,.d (.str [])]),(4,.arr 1 (102,5) ((dn z.ae (cz (ps.take k))).map Signed.enc))]) (fun k=>k≤ps.length) (fun k=>ps.length - k) 0 (Nat.zero_le _) ?_ ?_
 ·(conv=>whnf);repeat (first | exact trivial | (refine sI ?_; conv=>whnf))
  refine And.intro rfl ?_;exact sZ
 intro k hk IH;refine I.head ag Tryz.func238 2000 ?_;(conv=>whnf);refine aj (fun h5=>?_) (fun h5=>?_)
 ·have ah:k<ps.length:=by simpa using h5
  obtain ⟨p,hp⟩:=aU ah;refine gO Tryz.func238 ?_;refine aT (e := .int .i64 p) (bu hp) rfl ?_;refine gO Tryz.func238 ?_;refine aj (fun h6=>?_) (fun h6=>?_)
  ·have h0:=of_decide_eq_true h6;have dJ:=SZ hp h0;refine gO Tryz.func238 ?_;refine aY ?_;refine gO Tryz.func238 ?_;refine I.back (IH (k+1) (by omega) (by omega)) ?_;rw [dJ];exact sZ
  ·have h0:=of_decide_eq_false h6;obtain ⟨x,hx⟩:=aU (l:=z.ae) (k:=p.toNat) (by have:=fz p (List.mem_of_getElem? hp); omega);have dJ:=SY (z:=z) hp (by omega) hx;have ky:List.drop ((none:Option Int).getD 0).toNat (List.take ((some (k:Int)).getD ((ps.map (DV.int .i64)).length:Int)).toNat (ps.map (DV.int .i64)))=(ps.take k).map (DV.int .i64):=by simp [List.map_take]
   have c1:=SS (ps.take k) p (by simp; omega);have A1:pP (z.ae.map Signed.enc) p x.enc:=by
    have:=bu (f:=Signed.enc) hx
    rwa [Int.toNat_of_nonneg (by omega)] at this
   have iu:=SE (l:=z.ae) (ps:=cz (ps.take k));have nW:=SD (ps:=ps.take k);obtain ⟨q1,q2⟩:=gU x (List.mem_of_getElem? hx);refine gO Tryz.func238 ?_;refine bp ⟨by simp,by simp,by simp; omega,fun e he=>by obtain ⟨y,_,rfl⟩:=List.mem_map.1 he; rfl⟩ ?_;(conv=>whnf);rw [ky];refine gO Tryz.func238 ?_;refine ar (c1) ?_;refine gO Tryz.func238 ?_;by_cases ix:p∈ps.take k
   ·rw [if_pos ix] at dJ;refine bg (decide_eq_true ix) ?_;refine gO Tryz.func238 ?_;refine I.back (IH (k+1) (by omega) (by omega)) ?_;rw [dJ];exact sZ
   ·rw [if_neg ix] at dJ;refine aW (decide_eq_false ix) ?_;refine gO Tryz.func238 ?_;refine aT (e:=x.enc) A1 rfl ?_;refine gO Tryz.func238 ?_;refine ar (zx (x.set.data.map Datum.enc) (by simpa using q1) (fun e h=>by obtain ⟨d,_,rfl⟩:=List.mem_map.1 h; simp [DV.cells])) ?_;refine gO Tryz.func238 ?_;refine ar (IB (x.sigs.map di.enc) (by simpa using q2) (fun e h=>by obtain ⟨d,_,rfl⟩:=List.mem_map.1 h; simp [DV.cells])) ?_;refine gO Tryz.func238 ?_
    refine bp ⟨by have : (ps.take k).length ≤ 1000 := by { rw [List.length_take]; omega }
                  simp only [List.length_map, List.length_cons, List.length_nil]; omega, by simp [DV.cells]⟩ ?_
    refine gO Tryz.func238 ?_;refine I.back (IH (k+1) (by omega) (by omega)) ?_;rw [dJ];(conv=>whnf);repeat (first | exact trivial | (refine sI ?_; conv=>whnf))
    refine And.intro (by simp) ?_;exact sZ
 ·have aK:ps.length≤k:=by simpa using h5
  rw [List.take_of_length_le aK];(conv=>whnf);refine I.freeze 4 ?_;(conv=>whnf);refine gO Tryz.func238 ?_;exact ⟨rfl,rfl⟩
end Go.Proofs.YtfmdaiojokniiaaGreatDoor.P
end
section
namespace Go.Proofs.YtfmdaiojokniiaaGreatDoor.P
open Go Go.aw
set_option maxRecDepth 100000
set_option maxHeartbeats 4000000
theorem S1 (z:aF) (q:br) (cut:Text) (b:Bool) (w n:Text) (hv:∀ s∈z.ae,Nm.valid s.set.name=true) (hn:Nm.valid n=true) {i:Nat} {s:Signed} (hi:z.ae[i]? = some s):aq E 338 [.cells [.ptr 2 0],.cells [.d (.str n)],.cells [.d (.str z.ai),.d (.sl (z.ae.map Signed.enc)),.map 3,.d (.str q.name),.d (.int .i64 q.type),.d (.str cut),.d (.bool b),.d (.str w)],aZ z] [.d (.int .i64 i),.ptr 0 0,.ptr 1 0] (fun x h=>x = .d (.bool (!hU n s))∧h=[.cells [.ptr 2 0],.cells [.d (.str n)],.cells [.d (.str z.ai),.d (.sl (z.ae.map Signed.enc)),.map 3,.d (.str q.name),.d (.int .i64 q.type),.d (.str cut),.d (.bool b),.d (.str w)],aZ z]):=by
 have c1:=JK s.set.name n (hv s (List.mem_of_getElem? hi)) hn;unfold aZ;refine aq.run ag (fn:=Tryz.f338) Tryz.func338 (body:=Tryz.f338.body.getD .skip) rfl (by decide) 2000 rfl ?_;(conv=>whnf);refine I.bU ag bV 2000 (by kernel_rfl) ?_;(conv=>whnf);refine aT (e:=s.enc) (bu hi) rfl ?_;refine gD ?_;refine aR (c1) ?_;refine gD ?_;refine gO Tryz.func338 ?_;refine ⟨?_,rfl⟩;refine congrArg (fun b=>AV.d (DV.bool b)) ?_;unfold hU;rw [Bool.eq_iff_iff];simp
theorem S2 (z:aF) (q:br) (cut:Text) (b:Bool) (w n:Text) (hs:eW z.ae) (hl:z.ae.length≤1000000) (hv:∀ s∈z.ae,Nm.valid s.set.name=true) (hn:Nm.valid n=true):aq E 292 [.cells [.ptr 2 0],.cells [.d (.str n)],.cells [.d (.str z.ai),.d (.sl (z.ae.map Signed.enc)),.map 3,.d (.str q.name),.d (.int .i64 q.type),.d (.str cut),.d (.bool b),.d (.str w)],aZ z] [.d (.int .i64 z.ae.length),.fn (.func 338) [] [.ptr 0 0,.ptr 1 0]] (fun x h=>x = .d (.int .i64 (fS (hU n) z.ae))∧h=[.cells [.ptr 2 0],.cells [.d (.str n)],.cells [.d (.str z.ai),.d (.sl (z.ae.map Signed.enc)),.map 3,.d (.str q.name),.d (.int .i64 q.type),.d (.str cut),.d (.bool b),.d (.str w)],aZ z]):=by
 have c1:=fun i s hi=>S1 z q cut b w n hv hn (i:=i) (s:=s) hi;have hc:∀ i s,z.ae[i]? = some s→(hU n s=true↔i<fS (hU n) z.ae):=fun i s hi=>by rw [← le_iff hs hi]; simp [hU]
 have dS:=xn (P:=hU n) (l:=z.ae);generalize fS (hU n) z.ae=m at *;unfold aZ at *;refine aq.run ag (fn:=Tryz.f292) Tryz.func292 (body:=Tryz.f292.body.getD .skip) rfl (by decide) 2000 rfl ?_;(conv=>whnf);refine I.loop (κ:=Nat × Nat) [5,6,7,9,10,11,12,13,14,15,16,17,18,19,20,21,22,23,24] (fun k=>[(5,.d (.int .i64 k.1)),(6,.d (.int .i64 k.2))]) (fun _=>[]) (fun k=>k.1≤m∧m≤k.2∧k.2≤z.ae.length) (fun k=>k.2 - k.1) (0,z.ae.length) ⟨Nat.zero_le _,dS,Nat.le_refl _⟩ ?_ ?_
 ·exact sZ
 rintro ⟨i,j⟩ ⟨k1,k2,k3⟩ IH;simp only at k1 k2 k3;refine I.head ag Tryz.func292 2000 ?_;(conv=>whnf);refine aj (fun h5=>?_) (fun h5=>?_)
 ·have ah:i<j:=by simpa using h5
  obtain ⟨x,hx⟩:=aU (l:=z.ae) (k:=(i+j) / 2) (by omega);have wP:=Jz (i:=i) (j:=j) (by omega);have xq:=hc _ x hx;refine gO Tryz.func292 ?_;refine bp (by decide) ?_;refine gO Tryz.func292 ?_;rw [show IntKind.i64.wrap (oa .shr .u64 (IntKind.u64.wrap (IntKind.i64.wrap (((i,j).fst:Int)+((i,j).snd:Int)))) (Int.toNat 1))=(((i+j) / 2:Nat):Int) from wP]
  with_reducible refine bC (c1 _ x hx) ?_
  refine gO Tryz.func292 ?_;cases h6:hU n x
  ·have:¬ (i+j) / 2<m:=fun e=>by rw [xq.2 e] at h6; cases h6
   refine aW (by decide) ?_;refine gO Tryz.func292 ?_;refine I.back (IH (i,(i+j) / 2) ⟨k1,by simp only; omega,by simp only; omega⟩ (by simp only; omega)) ?_;exact sZ
  ·have:=xq.1 h6;refine bg (by decide) ?_;refine gO Tryz.func292 ?_;refine I.back (IH ((i+j) / 2+1,j) ⟨by simp only; omega,k2,k3⟩ (by simp only; omega)) ?_;exact sZ
 ·have aK:i=m:=by simp at h5; omega
  subst aK;refine gO Tryz.func292 ?_;exact ⟨rfl,rfl⟩
theorem S3 (z:aF) (q:br) (cut:Text) (b:Bool) (w n:Text):aq E 295 [bo z q cut b w,aZ z] [.ptr 0 0,.d (.str n)] (fun x h=>x = .fn (.func 337) [] [.ptr 2 0,.ptr 3 0]∧h=[bo z q cut b w,aZ z,.cells [.ptr 0 0],.cells [.d (.str n)]]):=by
 unfold bo aZ;refine aq.run ag (fn:=Tryz.f295) Tryz.func295 (body:=Tryz.f295.body.getD .skip) rfl (by decide) 2000 rfl ?_;(conv=>whnf);exact ⟨rfl,rfl⟩
theorem S4 {P:Nat→Bool} {k:Nat}:nM P (k+1)=if P k then (k:Int) else nM P k:=rfl
theorem S5 (z:aF) (q:br) (cut:Text) (b:Bool) (w n:Text) (hs:eW z.ae) (hl:z.ae.length≤1000000) (hv:∀ s∈z.ae,Nm.valid s.set.name=true) (hn:Nm.valid n=true):aq E 241 [bo z q cut b w,aZ z] [.ptr 0 0,.d (.str n)] (fun x h=>x = .d (.int .i64 (dW z.ae n))∧h=[bo z q cut b w,aZ z,.cells [.ptr 0 0],.cells [.d (.int .i64 (dW z.ae n))],.cells [.ptr 0 0],.cells [.d (.str n)]]):=by
 have c1:=S3 z q cut b w n;have c2:=S2 z q cut b w n hs hl hv hn;have dS:=xn (P:=hU n) (l:=z.ae);unfold dW;generalize fS (hU n) z.ae=m at *;unfold aZ at c2;unfold bo aZ at c1;unfold bo aZ;refine aq.run ag (fn:=Tryz.f241) Tryz.func241 (body:=Tryz.f241.body.getD .skip) rfl (by decide) 2000 rfl ?_;conv=>whnf
 with_reducible refine bC (c1) ?_
 refine gO Tryz.func241 ?_;refine I.rangeFunc (aM rfl) Tryz.func337 rfl (by decide) rfl (fun ll d t=>?_);refine gO Tryz.func337 ?_;rw [show ((z.ae.map Signed.enc).length:Int)=(z.ae.length:Int) by simp]
 with_reducible refine bC (c2) ?_
 refine gO Tryz.func337 ?_;refine I.loop (κ:=Nat) ([5]++rg 15 8) (fun k=>[(5,.d (.int .i64 ((k:Int) - 1)))]) (fun k=>[]) (fun k=>k≤m∧nM (uk z.ae) m=nM (uk z.ae) k) (fun k=>k) m ⟨Nat.le_refl _,rfl⟩ ?_ ?_
 ·exact sZ
 rintro k ⟨hk,r9⟩ IH;refine I.head ag Tryz.func337 2000 ?_;(conv=>whnf);refine aj (fun h5=>?_) (fun h5=>?_)
 ·have h5:=of_decide_eq_true h5;obtain ⟨k,rfl⟩:∃ j,k=j+1:=⟨k - 1,by omega⟩;obtain ⟨x,hx⟩:=aU (l:=z.ae) (k:=k) (by omega);have A1:pP (z.ae.map Signed.enc) (((k+1:Nat):Int) - 1) x.enc:=by
   rw [show (((k+1:Nat):Int) - 1)=(k:Int) by omega];exact bu hx
  have hw:IntKind.i64.wrap ((((k+1:Nat):Int) - 1) - 1)=(k:Int) - 1:=by rw [wrap64 (by omega) (by omega)]; omega
  have Ci:uk z.ae k=(x.set.type==8):=by simp [uk,hx]
  rw [S4,Ci] at r9;refine gO Tryz.func337 ?_;refine I.yield 0 rfl rfl rfl (aM rfl) (lJ (aM rfl)) rfl ?_;(conv=>whnf);refine gO Tryz.func241 ?_;refine I.begin 0 rfl rfl rfl ?_;(conv=>whnf);refine gO Tryz.func241 ?_;refine aT (e:=x.enc) A1 rfl ?_;refine gO Tryz.func241 ?_;cases ht:(x.set.type==8)
  ·rw [ht] at r9;refine aN ?_;refine gO Tryz.func241 ?_;refine I.mj 0 rfl rfl rfl ?_;(conv=>whnf);refine gO Tryz.func337 ?_;refine aW (by decide) ?_;refine gO Tryz.func337 ?_;refine I.back (IH k ⟨by omega,r9⟩ (by omega)) ?_;exact sZ
  ·rw [ht] at r9;refine aY ?_;refine gO Tryz.func241 ?_;refine I.yQ 0 rfl rfl rfl ?_;(conv=>whnf);refine gO Tryz.func337 ?_;refine bg (by decide) ?_;refine gO Tryz.func337 ?_;refine I.iC ag Tryz.func337 rfl rfl rfl rfl (fun e=>nomatch e) ?_;(conv=>whnf);refine gO Tryz.func241 ?_;refine I.fP ag Tryz.func241 rfl rfl rfl rfl rfl ?_;(conv=>whnf);rw [r9,if_pos rfl,show (((k+1:Nat):Int) - 1)=(k:Int) by omega];exact ⟨rfl,rfl⟩
 ·have aK:k=0:=by have:=of_decide_eq_false h5; omega
  subst aK;refine gO Tryz.func337 ?_;refine I.iC ag Tryz.func337 rfl rfl rfl rfl (fun e=>nomatch e) ?_;(conv=>whnf);refine gO Tryz.func241 ?_;refine I.fP ag Tryz.func241 rfl rfl rfl rfl rfl ?_;(conv=>whnf);rw [r9];exact ⟨rfl,rfl⟩
end Go.Proofs.YtfmdaiojokniiaaGreatDoor.P
end
section
namespace Go.Proofs.YtfmdaiojokniiaaGreatDoor.P
open Go Go.aw
set_option maxRecDepth 100000
set_option maxHeartbeats 4000000
theorem xr (z:aF) (q:br) (cut:Text) (b:Bool) (w n:Text) (V:gd z) (hn:Nm.valid n=true):aq E 239 [bo z q cut b w,aZ z] [.ptr 0 0,.d (.str n)] (fun x h=>x = .d (.bool (iM z.ae n))∧h=[bo z q cut b w,aZ z]) :=
 aq.oy (SX z q cut b w n V.sorted (by have:=V.len; omega) V.names hn) rfl rfl
theorem se (z:aF) (q:br) (cut:Text) (b:Bool) (w n:Text) (V:gd z) (hn:Nm.valid n=true):aq E 241 [bo z q cut b w,aZ z] [.ptr 0 0,.d (.str n)] (fun x h=>x = .d (.int .i64 (dW z.ae n))∧h=[bo z q cut b w,aZ z]) :=
 aq.oy (S5 z q cut b w n V.sorted (by have:=V.len; omega) V.names hn) rfl rfl
theorem kl (z:aF) (q:br) (cut:Text) (b:Bool) (w:Text) (kind:Int) (ps:List Int) (hf:z.jA) (fz:∀ p∈ps,p<z.ae.length) (hl:ps.length≤1000):aq E 238 [bo z q cut b w,aZ z] [.ptr 0 0,.d (.int .i64 kind),.d (.sl (ps.map (.int .i64)))] (fun x h=>x = .d (mE kind (dn z.ae (cz ps)) [])∧h=[bo z q cut b w,aZ z]) :=
 aq.oy (S0 z q cut b w kind ps hf fz hl) rfl rfl
theorem S6 (z:aF) (q:br) (cut:Text) (b:Bool) (w:Text) (V:gd z) (hf:z.jA):aq E 158 [bo z q cut b w,aZ z] [.ptr 0 0] (fun x h=>x = .az [.d (mE 1 (dn z.ae (cz [aO z.ae q])) []),.d (.bool (decide (aO z.ae q≥0)))]∧h=[bo z q cut b w,aZ z]):=by
 have c1:=oX z q cut b w q.name q.type V.sorted;have c2:=kl z q cut b w 1 [aO z.ae q] hf (fun p hp=>by simp at hp; subst hp; exact fJ.2) (by simp);simp only [List.map_cons,List.map_nil] at c2;unfold bo aZ at c1 c2;apply aq.oy
 case hk=>rfl
 case hc =>
  unfold bo aZ;refine aq.run ag (fn:=Tryz.f158) Tryz.func158 (body:=Tryz.f158.body.getD .skip) rfl (by decide) 2000 rfl ?_;(conv=>whnf);refine I.bU ag bV 2000 (by kernel_rfl) ?_;(conv=>whnf);refine iy (c1) ?_;refine And.intro rfl ?_;refine gD ?_;refine gO Tryz.func158 ?_
  with_reducible refine bC (c2) ?_
  refine gO Tryz.func158 ?_;exact ⟨rfl,rfl⟩
 case hr=>rfl
theorem S7 (z:aF) (q:br) (cut:Text) (b:Bool) (w:Text) (V:gd z) (hf:z.jA):aq E 159 [bo z q cut b w,aZ z] [.ptr 0 0] (fun x h=>x = .az [.d (mE 3 (dn z.ae (cz [aO z.ae ⟨q.name,3⟩])) []),.d (.bool (decide (aO z.ae ⟨q.name,3⟩≥0)&&(q.type != 8)))]∧h=[bo z q cut b w,aZ z]):=by
 have c1:=oX z q cut b w q.name 3 V.sorted;have ah:=(fJ (l:=z.ae) (q:=⟨q.name,3⟩)).2;generalize aO z.ae ⟨q.name,3⟩=i at *;have c2:=kl z q cut b w 3 [i] hf (fun p hp=>by simp at hp; subst hp; exact ah) (by simp);simp only [List.map_cons,List.map_nil] at c2;unfold bo aZ at c1 c2;apply aq.oy
 case hk=>rfl
 case hc =>
  unfold bo aZ;refine aq.run ag (fn:=Tryz.f159) Tryz.func159 (body:=Tryz.f159.body.getD .skip) rfl (by decide) 2000 rfl ?_;conv=>whnf
  with_reducible refine bC (c1) ?_
  refine gO Tryz.func159 ?_;refine I.bU ag bV 2000 (by kernel_rfl) ?_;(conv=>whnf);refine B7 (c2) ?_;refine gD ?_;by_cases h:i≥0
  ·refine bg (decide_eq_true h) ?_;refine gD ?_;refine And.intro (by kernel_rfl) ?_;(conv=>whnf);refine gO Tryz.func159 ?_;rw [decide_eq_true h,Bool.true_and];exact ⟨rfl,rfl⟩
  ·refine aW (decide_eq_false h) ?_;refine gD ?_;refine And.intro (by kernel_rfl) ?_;(conv=>whnf);refine gO Tryz.func159 ?_;rw [decide_eq_false h,Bool.false_and];exact ⟨rfl,rfl⟩
 case hr=>rfl
theorem JM (z:aF) (q:br) (cut:Text) (b:Bool) (w:Text) (V:gd z) (hf:z.jA) (hq:Nm.valid q.name=true):aq E 161 [bo z q cut b w,aZ z] [.ptr 0 0] (fun x h=>x = .az [.d (mE 2 (dn z.ae (cz [aO z.ae ⟨w,q.type⟩,dW z.ae q.name])) []),.d (.bool (decide (aO z.ae ⟨w,q.type⟩≥0)))]∧h=[bo z q cut b w,aZ z]):=by
 have c1:=oX z q cut b w w q.type V.sorted;have c3:=se z q cut b w q.name V hq;have ah:=(fJ (l:=z.ae) (q:=⟨w,q.type⟩)).2;have zO:=(sc (l:=z.ae) (n:=q.name)).2;generalize aO z.ae ⟨w,q.type⟩=i at *;generalize dW z.ae q.name=j at *;have c2:=kl z q cut b w 2 [i,j] hf (fun p hp=>by simp at hp; rcases hp with rfl | rfl <;> assumption) (by simp);simp only [List.map_cons,List.map_nil] at c2;unfold bo aZ at c1 c2 c3;apply aq.oy
 case hk=>rfl
 case hc =>
  unfold bo aZ;refine aq.run ag (fn:=Tryz.f161) Tryz.func161 (body:=Tryz.f161.body.getD .skip) rfl (by decide) 2000 rfl ?_;(conv=>whnf);refine I.bU ag bV 2000 (by kernel_rfl) ?_;(conv=>whnf);refine iy (c1) ?_;refine And.intro rfl ?_;refine gD ?_;refine gO Tryz.func161 ?_
  with_reducible refine bC (c3) ?_
  refine gO Tryz.func161 ?_
  with_reducible refine bC (c2) ?_
  refine gO Tryz.func161 ?_;exact ⟨rfl,rfl⟩
 case hr=>rfl
theorem JN (z:aF) (q:br) (cut:Text) (b:Bool) (w:Text) (V:gd z) (hf:z.jA) (hq:Nm.valid q.name=true):aq E 162 [bo z q cut b w,aZ z] [.ptr 0 0] (fun x h=>x = .az [.d (mE 3 (dn z.ae (cz [aO z.ae ⟨w,3⟩,dW z.ae q.name])) []),.d (.bool (decide (aO z.ae ⟨w,3⟩≥0)&&(q.type != 8)))]∧h=[bo z q cut b w,aZ z]):=by
 have c1:=oX z q cut b w w 3 V.sorted;have c3:=se z q cut b w q.name V hq;have ah:=(fJ (l:=z.ae) (q:=⟨w,3⟩)).2;have zO:=(sc (l:=z.ae) (n:=q.name)).2;generalize aO z.ae ⟨w,3⟩=i at *;generalize dW z.ae q.name=j at *;have c2:=kl z q cut b w 3 [i,j] hf (fun p hp=>by simp at hp; rcases hp with rfl | rfl <;> assumption) (by simp);simp only [List.map_cons,List.map_nil] at c2;unfold bo aZ at c1 c2 c3;apply aq.oy
 case hk=>rfl
 case hc =>
  unfold bo aZ;refine aq.run ag (fn:=Tryz.f162) Tryz.func162 (body:=Tryz.f162.body.getD .skip) rfl (by decide) 2000 rfl ?_;conv=>whnf
  with_reducible refine bC (c1) ?_
  refine gO Tryz.func162 ?_;refine I.bU ag bV 2000 (by kernel_rfl) ?_;(conv=>whnf);refine iy (c3) ?_;refine And.intro rfl ?_;refine gD ?_;refine iy (c2) ?_;refine And.intro rfl ?_;refine gD ?_;by_cases h:i≥0
  ·refine bg (decide_eq_true h) ?_;refine gD ?_;refine gO Tryz.func162 ?_;rw [decide_eq_true h,Bool.true_and];exact ⟨rfl,rfl⟩
  ·refine aW (decide_eq_false h) ?_;refine gD ?_;refine gO Tryz.func162 ?_;rw [decide_eq_false h,Bool.false_and];exact ⟨rfl,rfl⟩
 case hr=>rfl
theorem JO (z:aF) (q:br) (cut:Text) (b:Bool) (w:Text) (V:gd z) (hf:z.jA) (hq:Nm.valid q.name=true) (hw:w=[]∨Nm.valid w=true):aq E 164 [bo z q cut b w,aZ z] [.ptr 0 0] (fun x h=>x = .d (mE 6 (dn z.ae (cz (if w=[] then [aO z.ae ⟨z.ai,4⟩,dW z.ae q.name,-1] else [aO z.ae ⟨z.ai,4⟩,dW z.ae q.name,dW z.ae w]))) [])∧h=[bo z q cut b w,aZ z]):=by
 have c1:=DZ z q cut b w V.sorted;have c3:=se z q cut b w q.name V hq;have ah:=(fJ (l:=z.ae) (q:=⟨z.ai,4⟩)).2;have zO:=(sc (l:=z.ae) (n:=q.name)).2;have S8:=(sc (l:=z.ae) (n:=w)).2;generalize aO z.ae ⟨z.ai,4⟩=i at *;by_cases he:w=[]
 ·rw [if_pos he];generalize dW z.ae q.name=j at *;have c2:=kl z q cut b w 6 [i,j,-1] hf (fun p hp=>by simp at hp; rcases hp with rfl | rfl | rfl <;> first | assumption | omega) (by simp);simp only [List.map_cons,List.map_nil] at c2;unfold bo aZ at c1 c2 c3;apply aq.oy
  case hk=>rfl
  case hc =>
   unfold bo aZ;refine aq.run ag (fn:=Tryz.f164) Tryz.func164 (body:=Tryz.f164.body.getD .skip) rfl (by decide) 2000 rfl ?_;(conv=>whnf);refine aW (by simp [he]) ?_;refine gO Tryz.func164 ?_;refine I.bU ag bV 2000 (by kernel_rfl) ?_;(conv=>whnf);refine iy (c1) ?_;refine And.intro rfl ?_;refine gD ?_;refine iy (c3) ?_;refine And.intro rfl ?_;refine gD ?_;refine iy (c2) ?_;refine And.intro rfl ?_;refine gD ?_;refine gO Tryz.func164 ?_;exact ⟨rfl,rfl⟩
  case hr=>rfl
 ·have c4:=se z q cut b w w V (hw.resolve_left he);rw [if_neg he];generalize dW z.ae q.name=j at *;generalize dW z.ae w=m at *;have c2:=kl z q cut b w 6 [i,j,m] hf (fun p hp=>by simp at hp; rcases hp with rfl | rfl | rfl <;> assumption) (by simp);simp only [List.map_cons,List.map_nil] at c2;unfold bo aZ at c1 c2 c3 c4;apply aq.oy
  case hk=>rfl
  case hc =>
   unfold bo aZ;refine aq.run ag (fn:=Tryz.f164) Tryz.func164 (body:=Tryz.f164.body.getD .skip) rfl (by decide) 2000 rfl ?_;(conv=>whnf);refine bg (by simp [he]) ?_;refine gO Tryz.func164 ?_
   with_reducible refine bC (c4) ?_
   refine gO Tryz.func164 ?_;refine I.bU ag bV 2000 (by kernel_rfl) ?_;(conv=>whnf);refine iy (c1) ?_;refine And.intro rfl ?_;refine gD ?_;refine iy (c3) ?_;refine And.intro rfl ?_;refine gD ?_;refine iy (c2) ?_;refine And.intro rfl ?_;refine gD ?_;refine gO Tryz.func164 ?_;exact ⟨rfl,rfl⟩
  case hr=>rfl
end Go.Proofs.YtfmdaiojokniiaaGreatDoor.P
end
