/- Several texts of mine, one behind the other. Conditions: as each says. -/
import Derived.Test.YtfmdaiojokniiaaGreatDoorY34
set_option linter.unusedVariables false
set_option linter.unusedSimpArgs false
section
namespace Go.Proofs.YtfmdaiojokniiaaGreatDoor.P
open Go Go.ax
set_option maxRecDepth 100000
set_option maxHeartbeats 4000000
def nd (k:Int) (l:List Signed) (c:Text):DV := .agg [.int .i64 k,.sl (l.map Signed.enc),.str c]
theorem Ul {z:aR} {ps:List Int} {k:Nat} {p:Int} (hp:ps[k]? = some p) {s:Signed} (h0:0≤p) (hs:z.ab[p.toNat]? = some s):dV z.ab (cF (ps.take (k+1)))=if p∈ps.take k then dV z.ab (cF (ps.take k)) else dV z.ab (cF (ps.take k))++[s]:=by
 rw [Ku hp,T5 h0 hs];have:p∈cF (ps.take k)↔p∈ps.take k:=by rw [T2]; exact ⟨fun h=>h.2,fun h=>⟨h0,h⟩⟩
 by_cases e:p∈ps.take k
 ·rw [if_pos e,if_pos (this.2 e)]
 ·rw [if_neg e,if_neg (fun h=>e (this.1 h))]
theorem Um {ps:List Int} {k:Nat} {p:Int} (hp:ps[k]? = some p) (h0:p<0):cF (ps.take (k+1))=cF (ps.take k):=by
 rw [Ku hp,jA,if_pos (.inl h0)]
theorem Un (z:aR) (q:bw) (cut:Text) (b:Bool) (w:Text) (kind:Int) (ps:List Int) (hf:z.jW) (fG:∀ p∈ps,p<z.ab.length) (hl:ps.length≤1000):aw E 238 [bq z q cut b w,bh z] [.ptr 0 0,.d (.int .i64 kind),.d (.sl (ps.map (.int .i64)))] (fun x h=>x = .d (nd kind (dV z.ab (cF ps)) [])∧h=[bq z q cut b w,bh z,.cells [.d (.int .i64 kind),.d (.sl ((dV z.ab (cF ps)).map Signed.enc)),.d (.str [])],.cells [.d (.int .i64 kind),.d (.sl ((dV z.ab (cF ps)).map Signed.enc)),.d (.str [])],.gone]):=by
 obtain ⟨tR,ib⟩:=hf;unfold bq bh nd;refine aw.run af (fn:=Tryz.f238) Tryz.func238 (body:=Tryz.f238.body.getD .skip) rfl (by decide) 2000 rfl ?_;(conv=>whnf);refine I.qa 3 1 (102,5) (by decide) rfl rfl ?_;(conv=>whnf);refine I.loop (κ:=Nat) ([8,9,10]++rg 15 38) (fun k=>[(15,.d (.int .i64 k))]) (fun k=>[(3,.cells [.d (.int .i64 kind),.own 4 1,.d (.str [])]),(4,.arr 1 (102,5) ((dV z.ab (cF (ps.take k))).map Signed.enc))]) (fun k=>k≤ps.length) (fun k=>ps.length - k) 0 (Nat.zero_le _) ?_ ?_
 ·(conv=>whnf);repeat (first | exact trivial | (refine sI ?_; conv=>whnf))
  refine And.intro rfl ?_;exact sZ
 intro k hk IH;refine I.head af Tryz.func238 2000 ?_;(conv=>whnf);refine ah (fun h5=>?_) (fun h5=>?_)
 ·have ai:k<ps.length:=by simpa using h5
  obtain ⟨p,hp⟩:=aD ai;refine gO Tryz.func238 ?_;refine aB (e := .int .i64 p) (aN hp) rfl ?_;refine gO Tryz.func238 ?_;refine ah (fun h6=>?_) (fun h6=>?_)
  ·have h0:=of_decide_eq_true h6;have fM:=Um hp h0;refine gO Tryz.func238 ?_;refine aY ?_;refine gO Tryz.func238 ?_;refine I.back (IH (k+1) (by omega) (by omega)) ?_;rw [fM];exact sZ
  ·have h0:=of_decide_eq_false h6;obtain ⟨x,hx⟩:=aD (l:=z.ab) (k:=p.toNat) (by have:=fG p (List.mem_of_getElem? hp); omega);have fM:=Ul (z:=z) hp (by omega) hx;have kQ:List.drop ((none:Option Int).getD 0).toNat (List.take ((some (k:Int)).getD ((ps.map (DV.int .i64)).length:Int)).toNat (ps.map (DV.int .i64)))=(ps.take k).map (DV.int .i64):=by simp [List.map_take]
   have c1:=Uh (ps.take k) p (by simp; omega);have A1:oO (z.ab.map Signed.enc) p x.enc:=by
    have:=aN (f:=Signed.enc) hx
    rwa [Int.toNat_of_nonneg (by omega)] at this
   have iK:=T4 (l:=z.ab) (ps:=cF (ps.take k));have qQ:=T3 (ps:=ps.take k);obtain ⟨q1,q2⟩:=ib x (List.mem_of_getElem? hx);refine gO Tryz.func238 ?_;refine bc ⟨by simp,by simp,by simp; omega,fun e he=>by obtain ⟨y,_,rfl⟩:=List.mem_map.1 he; rfl⟩ ?_;(conv=>whnf);rw [kQ];refine gO Tryz.func238 ?_;refine ao (c1) ?_;refine gO Tryz.func238 ?_;by_cases gJ:p∈ps.take k
   ·rw [if_pos gJ] at fM;refine aV (decide_eq_true gJ) ?_;refine gO Tryz.func238 ?_;refine I.back (IH (k+1) (by omega) (by omega)) ?_;rw [fM];exact sZ
   ·rw [if_neg gJ] at fM;refine aW (decide_eq_false gJ) ?_;refine gO Tryz.func238 ?_;refine aB (e:=x.enc) A1 rfl ?_;refine gO Tryz.func238 ?_;refine ao (z8 (x.set.data.map Datum.enc) (by simpa using q1) (fun e h=>by obtain ⟨d,_,rfl⟩:=List.mem_map.1 h; simp [DV.cells])) ?_;refine gO Tryz.func238 ?_;refine ao (Jl (x.sigs.map da.enc) (by simpa using q2) (fun e h=>by obtain ⟨d,_,rfl⟩:=List.mem_map.1 h; simp [DV.cells])) ?_;refine gO Tryz.func238 ?_
    refine bc ⟨by have : (ps.take k).length ≤ 1000 := by { rw [List.length_take]; omega }
                  simp only [List.length_map, List.length_cons, List.length_nil]; omega, by simp [DV.cells]⟩ ?_
    refine gO Tryz.func238 ?_;refine I.back (IH (k+1) (by omega) (by omega)) ?_;rw [fM];(conv=>whnf);repeat (first | exact trivial | (refine sI ?_; conv=>whnf))
    refine And.intro (by simp) ?_;exact sZ
 ·have aC:ps.length≤k:=by simpa using h5
  rw [List.take_of_length_le aC];(conv=>whnf);refine I.freeze 4 ?_;(conv=>whnf);refine gO Tryz.func238 ?_;exact ⟨rfl,rfl⟩
end Go.Proofs.YtfmdaiojokniiaaGreatDoor.P
end
section
namespace Go.Proofs.YtfmdaiojokniiaaGreatDoor.P
open Go Go.ax
set_option maxRecDepth 100000
set_option maxHeartbeats 4000000
theorem Uo (z:aR) (q:bw) (cut:Text) (b:Bool) (w n:Text) (hv:∀ s∈z.ab,Nm.valid s.set.name=true) (hn:Nm.valid n=true) {i:Nat} {s:Signed} (hi:z.ab[i]? = some s):aw E 338 [.cells [.ptr 2 0],.cells [.d (.str n)],.cells [.d (.str z.aj),.d (.sl (z.ab.map Signed.enc)),.map 3,.d (.str q.name),.d (.int .i64 q.type),.d (.str cut),.d (.bool b),.d (.str w)],bh z] [.d (.int .i64 i),.ptr 0 0,.ptr 1 0] (fun x h=>x = .d (.bool (!iv n s))∧h=[.cells [.ptr 2 0],.cells [.d (.str n)],.cells [.d (.str z.aj),.d (.sl (z.ab.map Signed.enc)),.map 3,.d (.str q.name),.d (.int .i64 q.type),.d (.str cut),.d (.bool b),.d (.str w)],bh z]):=by
 have c1:=KC s.set.name n (hv s (List.mem_of_getElem? hi)) hn;unfold bh;refine aw.run af (fn:=Tryz.f338) Tryz.func338 (body:=Tryz.f338.body.getD .skip) rfl (by decide) 2000 rfl ?_;(conv=>whnf);refine I.bH af bI 2000 (by kernel_rfl) ?_;(conv=>whnf);refine aB (e:=s.enc) (aN hi) rfl ?_;refine gD ?_;refine au (c1) ?_;refine gD ?_;refine gO Tryz.func338 ?_;refine ⟨?_,rfl⟩;refine congrArg (fun b=>AV.d (DV.bool b)) ?_;unfold iv;rw [Bool.eq_iff_iff];simp
theorem Up (z:aR) (q:bw) (cut:Text) (b:Bool) (w n:Text) (hs:fc z.ab) (hl:z.ab.length≤1000000) (hv:∀ s∈z.ab,Nm.valid s.set.name=true) (hn:Nm.valid n=true):aw E 292 [.cells [.ptr 2 0],.cells [.d (.str n)],.cells [.d (.str z.aj),.d (.sl (z.ab.map Signed.enc)),.map 3,.d (.str q.name),.d (.int .i64 q.type),.d (.str cut),.d (.bool b),.d (.str w)],bh z] [.d (.int .i64 z.ab.length),.fn (.func 338) [] [.ptr 0 0,.ptr 1 0]] (fun x h=>x = .d (.int .i64 (gh (iv n) z.ab))∧h=[.cells [.ptr 2 0],.cells [.d (.str n)],.cells [.d (.str z.aj),.d (.sl (z.ab.map Signed.enc)),.map 3,.d (.str q.name),.d (.int .i64 q.type),.d (.str cut),.d (.bool b),.d (.str w)],bh z]):=by
 have c1:=fun i s hi=>Uo z q cut b w n hv hn (i:=i) (s:=s) hi;have hc:∀ i s,z.ab[i]? = some s→(iv n s=true↔i<gh (iv n) z.ab):=fun i s hi=>by rw [← le_iff hs hi]; simp [iv]
 have cH:=xU (P:=iv n) (l:=z.ab);generalize gh (iv n) z.ab=m at *;unfold bh at *;refine aw.run af (fn:=Tryz.f292) Tryz.func292 (body:=Tryz.f292.body.getD .skip) rfl (by decide) 2000 rfl ?_;(conv=>whnf);refine I.loop (κ:=Nat × Nat) [5,6,7,9,10,11,12,13,14,15,16,17,18,19,20,21,22,23,24] (fun k=>[(5,.d (.int .i64 k.1)),(6,.d (.int .i64 k.2))]) (fun _=>[]) (fun k=>k.1≤m∧m≤k.2∧k.2≤z.ab.length) (fun k=>k.2 - k.1) (0,z.ab.length) ⟨Nat.zero_le _,cH,Nat.le_refl _⟩ ?_ ?_
 ·exact sZ
 rintro ⟨i,j⟩ ⟨k1,k2,k3⟩ IH;simp only at k1 k2 k3;refine I.head af Tryz.func292 2000 ?_;(conv=>whnf);refine ah (fun h5=>?_) (fun h5=>?_)
 ·have ai:i<j:=by simpa using h5
  obtain ⟨x,hx⟩:=aD (l:=z.ab) (k:=(i+j) / 2) (by omega);have xk:=Ks (i:=i) (j:=j) (by omega);have xW:=hc _ x hx;refine gO Tryz.func292 ?_;refine bc (by decide) ?_;refine gO Tryz.func292 ?_;rw [show IntKind.i64.wrap (oy .shr .u64 (IntKind.u64.wrap (IntKind.i64.wrap (((i,j).fst:Int)+((i,j).snd:Int)))) (Int.toNat 1))=(((i+j) / 2:Nat):Int) from xk]
  with_reducible refine bF (c1 _ x hx) ?_
  refine gO Tryz.func292 ?_;cases h6:iv n x
  ·have:¬ (i+j) / 2<m:=fun e=>by rw [xW.2 e] at h6; cases h6
   refine aW (by decide) ?_;refine gO Tryz.func292 ?_;refine I.back (IH (i,(i+j) / 2) ⟨k1,by simp only; omega,by simp only; omega⟩ (by simp only; omega)) ?_;exact sZ
  ·have:=xW.1 h6;refine aV (by decide) ?_;refine gO Tryz.func292 ?_;refine I.back (IH ((i+j) / 2+1,j) ⟨by simp only; omega,k2,k3⟩ (by simp only; omega)) ?_;exact sZ
 ·have aC:i=m:=by simp at h5; omega
  subst aC;refine gO Tryz.func292 ?_;exact ⟨rfl,rfl⟩
theorem Uq (z:aR) (q:bw) (cut:Text) (b:Bool) (w n:Text):aw E 295 [bq z q cut b w,bh z] [.ptr 0 0,.d (.str n)] (fun x h=>x = .fn (.func 337) [] [.ptr 2 0,.ptr 3 0]∧h=[bq z q cut b w,bh z,.cells [.ptr 0 0],.cells [.d (.str n)]]):=by
 unfold bq bh;refine aw.run af (fn:=Tryz.f295) Tryz.func295 (body:=Tryz.f295.body.getD .skip) rfl (by decide) 2000 rfl ?_;(conv=>whnf);exact ⟨rfl,rfl⟩
theorem Ur {P:Nat→Bool} {k:Nat}:n' P (k+1)=if P k then (k:Int) else n' P k:=rfl
theorem Us (z:aR) (q:bw) (cut:Text) (b:Bool) (w n:Text) (hs:fc z.ab) (hl:z.ab.length≤1000000) (hv:∀ s∈z.ab,Nm.valid s.set.name=true) (hn:Nm.valid n=true):aw E 241 [bq z q cut b w,bh z] [.ptr 0 0,.d (.str n)] (fun x h=>x = .d (.int .i64 (eb z.ab n))∧h=[bq z q cut b w,bh z,.cells [.ptr 0 0],.cells [.d (.int .i64 (eb z.ab n))],.cells [.ptr 0 0],.cells [.d (.str n)]]):=by
 have c1:=Uq z q cut b w n;have c2:=Up z q cut b w n hs hl hv hn;have cH:=xU (P:=iv n) (l:=z.ab);unfold eb;generalize gh (iv n) z.ab=m at *;unfold bh at c2;unfold bq bh at c1;unfold bq bh;refine aw.run af (fn:=Tryz.f241) Tryz.func241 (body:=Tryz.f241.body.getD .skip) rfl (by decide) 2000 rfl ?_;conv=>whnf
 with_reducible refine bF (c1) ?_
 refine gO Tryz.func241 ?_;refine I.rangeFunc (bg rfl) Tryz.func337 rfl (by decide) rfl (fun ll d t=>?_);refine gO Tryz.func337 ?_;rw [show ((z.ab.map Signed.enc).length:Int)=(z.ab.length:Int) by simp]
 with_reducible refine bF (c2) ?_
 refine gO Tryz.func337 ?_;refine I.loop (κ:=Nat) ([5]++rg 15 8) (fun k=>[(5,.d (.int .i64 ((k:Int) - 1)))]) (fun k=>[]) (fun k=>k≤m∧n' (uU z.ab) m=n' (uU z.ab) k) (fun k=>k) m ⟨Nat.le_refl _,rfl⟩ ?_ ?_
 ·exact sZ
 rintro k ⟨hk,sD⟩ IH;refine I.head af Tryz.func337 2000 ?_;(conv=>whnf);refine ah (fun h5=>?_) (fun h5=>?_)
 ·have h5:=of_decide_eq_true h5;obtain ⟨k,rfl⟩:∃ j,k=j+1:=⟨k - 1,by omega⟩;obtain ⟨x,hx⟩:=aD (l:=z.ab) (k:=k) (by omega);have A1:oO (z.ab.map Signed.enc) (((k+1:Nat):Int) - 1) x.enc:=by
   rw [show (((k+1:Nat):Int) - 1)=(k:Int) by omega];exact aN hx
  have hw:IntKind.i64.wrap ((((k+1:Nat):Int) - 1) - 1)=(k:Int) - 1:=by rw [wrap64 (by omega) (by omega)]; omega
  have CL:uU z.ab k=(x.set.type==8):=by simp [uU,hx]
  rw [Ur,CL] at sD;refine gO Tryz.func337 ?_;refine I.yield 0 rfl rfl rfl (bg rfl) (l8 (bg rfl)) rfl ?_;(conv=>whnf);refine gO Tryz.func241 ?_;refine I.begin 0 rfl rfl rfl ?_;(conv=>whnf);refine gO Tryz.func241 ?_;refine aB (e:=x.enc) A1 rfl ?_;refine gO Tryz.func241 ?_;cases ht:(x.set.type==8)
  ·rw [ht] at sD;refine aQ ?_;refine gO Tryz.func241 ?_;refine I.nN 0 rfl rfl rfl ?_;(conv=>whnf);refine gO Tryz.func337 ?_;refine aW (by decide) ?_;refine gO Tryz.func337 ?_;refine I.back (IH k ⟨by omega,sD⟩ (by omega)) ?_;exact sZ
  ·rw [ht] at sD;refine aY ?_;refine gO Tryz.func241 ?_;refine I.zt 0 rfl rfl rfl ?_;(conv=>whnf);refine gO Tryz.func337 ?_;refine aV (by decide) ?_;refine gO Tryz.func337 ?_;refine I.jr af Tryz.func337 rfl rfl rfl rfl (fun e=>nomatch e) ?_;(conv=>whnf);refine gO Tryz.func241 ?_;refine I.kx af Tryz.func241 rfl rfl rfl rfl rfl ?_;(conv=>whnf);rw [sD,if_pos rfl,show (((k+1:Nat):Int) - 1)=(k:Int) by omega];exact ⟨rfl,rfl⟩
 ·have aC:k=0:=by have:=of_decide_eq_false h5; omega
  subst aC;refine gO Tryz.func337 ?_;refine I.jr af Tryz.func337 rfl rfl rfl rfl (fun e=>nomatch e) ?_;(conv=>whnf);refine gO Tryz.func241 ?_;refine I.kx af Tryz.func241 rfl rfl rfl rfl rfl ?_;(conv=>whnf);rw [sD];exact ⟨rfl,rfl⟩
end Go.Proofs.YtfmdaiojokniiaaGreatDoor.P
end
section
namespace Go.Proofs.YtfmdaiojokniiaaGreatDoor.P
open Go Go.ax
set_option maxRecDepth 100000
set_option maxHeartbeats 4000000
theorem xX (z:aR) (q:bw) (cut:Text) (b:Bool) (w n:Text) (V:gv z) (hn:Nm.valid n=true):aw E 239 [bq z q cut b w,bh z] [.ptr 0 0,.d (.str n)] (fun x h=>x = .d (.bool (jc z.ab n))∧h=[bq z q cut b w,bh z]) :=
 aw.oN (Uk z q cut b w n V.sorted (by have:=V.len; omega) V.names hn) rfl rfl
theorem sJ (z:aR) (q:bw) (cut:Text) (b:Bool) (w n:Text) (V:gv z) (hn:Nm.valid n=true):aw E 241 [bq z q cut b w,bh z] [.ptr 0 0,.d (.str n)] (fun x h=>x = .d (.int .i64 (eb z.ab n))∧h=[bq z q cut b w,bh z]) :=
 aw.oN (Us z q cut b w n V.sorted (by have:=V.len; omega) V.names hn) rfl rfl
theorem kJ (z:aR) (q:bw) (cut:Text) (b:Bool) (w:Text) (kind:Int) (ps:List Int) (hf:z.jW) (fG:∀ p∈ps,p<z.ab.length) (hl:ps.length≤1000):aw E 238 [bq z q cut b w,bh z] [.ptr 0 0,.d (.int .i64 kind),.d (.sl (ps.map (.int .i64)))] (fun x h=>x = .d (nd kind (dV z.ab (cF ps)) [])∧h=[bq z q cut b w,bh z]) :=
 aw.oN (Un z q cut b w kind ps hf fG hl) rfl rfl
theorem Ut (z:aR) (q:bw) (cut:Text) (b:Bool) (w:Text) (V:gv z) (hf:z.jW):aw E 158 [bq z q cut b w,bh z] [.ptr 0 0] (fun x h=>x = .aF [.d (nd 1 (dV z.ab (cF [aU z.ab q])) []),.d (.bool (decide (aU z.ab q≥0)))]∧h=[bq z q cut b w,bh z]):=by
 have c1:=pt z q cut b w q.name q.type V.sorted;have c2:=kJ z q cut b w 1 [aU z.ab q] hf (fun p hp=>by simp at hp; subst hp; exact fP.2) (by simp);simp only [List.map_cons,List.map_nil] at c2;unfold bq bh at c1 c2;apply aw.oN
 case hk=>rfl
 case hc =>
  unfold bq bh;refine aw.run af (fn:=Tryz.f158) Tryz.func158 (body:=Tryz.f158.body.getD .skip) rfl (by decide) 2000 rfl ?_;(conv=>whnf);refine I.bH af bI 2000 (by kernel_rfl) ?_;(conv=>whnf);refine iO (c1) ?_;refine And.intro rfl ?_;refine gD ?_;refine gO Tryz.func158 ?_
  with_reducible refine bF (c2) ?_
  refine gO Tryz.func158 ?_;exact ⟨rfl,rfl⟩
 case hr=>rfl
theorem Uu (z:aR) (q:bw) (cut:Text) (b:Bool) (w:Text) (V:gv z) (hf:z.jW):aw E 159 [bq z q cut b w,bh z] [.ptr 0 0] (fun x h=>x = .aF [.d (nd 3 (dV z.ab (cF [aU z.ab ⟨q.name,3⟩])) []),.d (.bool (decide (aU z.ab ⟨q.name,3⟩≥0)&&(q.type != 8)))]∧h=[bq z q cut b w,bh z]):=by
 have c1:=pt z q cut b w q.name 3 V.sorted;have ai:=(fP (l:=z.ab) (q:=⟨q.name,3⟩)).2;generalize aU z.ab ⟨q.name,3⟩=i at *;have c2:=kJ z q cut b w 3 [i] hf (fun p hp=>by simp at hp; subst hp; exact ai) (by simp);simp only [List.map_cons,List.map_nil] at c2;unfold bq bh at c1 c2;apply aw.oN
 case hk=>rfl
 case hc =>
  unfold bq bh;refine aw.run af (fn:=Tryz.f159) Tryz.func159 (body:=Tryz.f159.body.getD .skip) rfl (by decide) 2000 rfl ?_;conv=>whnf
  with_reducible refine bF (c1) ?_
  refine gO Tryz.func159 ?_;refine I.bH af bI 2000 (by kernel_rfl) ?_;(conv=>whnf);refine Cz (c2) ?_;refine gD ?_;by_cases h:i≥0
  ·refine aV (decide_eq_true h) ?_;refine gD ?_;refine And.intro (by kernel_rfl) ?_;(conv=>whnf);refine gO Tryz.func159 ?_;rw [decide_eq_true h,Bool.true_and];exact ⟨rfl,rfl⟩
  ·refine aW (decide_eq_false h) ?_;refine gD ?_;refine And.intro (by kernel_rfl) ?_;(conv=>whnf);refine gO Tryz.func159 ?_;rw [decide_eq_false h,Bool.false_and];exact ⟨rfl,rfl⟩
 case hr=>rfl
theorem KE (z:aR) (q:bw) (cut:Text) (b:Bool) (w:Text) (V:gv z) (hf:z.jW) (hq:Nm.valid q.name=true):aw E 161 [bq z q cut b w,bh z] [.ptr 0 0] (fun x h=>x = .aF [.d (nd 2 (dV z.ab (cF [aU z.ab ⟨w,q.type⟩,eb z.ab q.name])) []),.d (.bool (decide (aU z.ab ⟨w,q.type⟩≥0)))]∧h=[bq z q cut b w,bh z]):=by
 have c1:=pt z q cut b w w q.type V.sorted;have c3:=sJ z q cut b w q.name V hq;have ai:=(fP (l:=z.ab) (q:=⟨w,q.type⟩)).2;have jV:=(sE (l:=z.ab) (n:=q.name)).2;generalize aU z.ab ⟨w,q.type⟩=i at *;generalize eb z.ab q.name=j at *;have c2:=kJ z q cut b w 2 [i,j] hf (fun p hp=>by simp at hp; rcases hp with rfl | rfl <;> assumption) (by simp);simp only [List.map_cons,List.map_nil] at c2;unfold bq bh at c1 c2 c3;apply aw.oN
 case hk=>rfl
 case hc =>
  unfold bq bh;refine aw.run af (fn:=Tryz.f161) Tryz.func161 (body:=Tryz.f161.body.getD .skip) rfl (by decide) 2000 rfl ?_;(conv=>whnf);refine I.bH af bI 2000 (by kernel_rfl) ?_;(conv=>whnf);refine iO (c1) ?_;refine And.intro rfl ?_;refine gD ?_;refine gO Tryz.func161 ?_
  with_reducible refine bF (c3) ?_
  refine gO Tryz.func161 ?_
  with_reducible refine bF (c2) ?_
  refine gO Tryz.func161 ?_;exact ⟨rfl,rfl⟩
 case hr=>rfl
theorem KF (z:aR) (q:bw) (cut:Text) (b:Bool) (w:Text) (V:gv z) (hf:z.jW) (hq:Nm.valid q.name=true):aw E 162 [bq z q cut b w,bh z] [.ptr 0 0] (fun x h=>x = .aF [.d (nd 3 (dV z.ab (cF [aU z.ab ⟨w,3⟩,eb z.ab q.name])) []),.d (.bool (decide (aU z.ab ⟨w,3⟩≥0)&&(q.type != 8)))]∧h=[bq z q cut b w,bh z]):=by
 have c1:=pt z q cut b w w 3 V.sorted;have c3:=sJ z q cut b w q.name V hq;have ai:=(fP (l:=z.ab) (q:=⟨w,3⟩)).2;have jV:=(sE (l:=z.ab) (n:=q.name)).2;generalize aU z.ab ⟨w,3⟩=i at *;generalize eb z.ab q.name=j at *;have c2:=kJ z q cut b w 3 [i,j] hf (fun p hp=>by simp at hp; rcases hp with rfl | rfl <;> assumption) (by simp);simp only [List.map_cons,List.map_nil] at c2;unfold bq bh at c1 c2 c3;apply aw.oN
 case hk=>rfl
 case hc =>
  unfold bq bh;refine aw.run af (fn:=Tryz.f162) Tryz.func162 (body:=Tryz.f162.body.getD .skip) rfl (by decide) 2000 rfl ?_;conv=>whnf
  with_reducible refine bF (c1) ?_
  refine gO Tryz.func162 ?_;refine I.bH af bI 2000 (by kernel_rfl) ?_;(conv=>whnf);refine iO (c3) ?_;refine And.intro rfl ?_;refine gD ?_;refine iO (c2) ?_;refine And.intro rfl ?_;refine gD ?_;by_cases h:i≥0
  ·refine aV (decide_eq_true h) ?_;refine gD ?_;refine gO Tryz.func162 ?_;rw [decide_eq_true h,Bool.true_and];exact ⟨rfl,rfl⟩
  ·refine aW (decide_eq_false h) ?_;refine gD ?_;refine gO Tryz.func162 ?_;rw [decide_eq_false h,Bool.false_and];exact ⟨rfl,rfl⟩
 case hr=>rfl
theorem KG (z:aR) (q:bw) (cut:Text) (b:Bool) (w:Text) (V:gv z) (hf:z.jW) (hq:Nm.valid q.name=true) (hw:w=[]∨Nm.valid w=true):aw E 164 [bq z q cut b w,bh z] [.ptr 0 0] (fun x h=>x = .d (nd 6 (dV z.ab (cF (if w=[] then [aU z.ab ⟨z.aj,4⟩,eb z.ab q.name,-1] else [aU z.ab ⟨z.aj,4⟩,eb z.ab q.name,eb z.ab w]))) [])∧h=[bq z q cut b w,bh z]):=by
 have c1:=ED z q cut b w V.sorted;have c3:=sJ z q cut b w q.name V hq;have ai:=(fP (l:=z.ab) (q:=⟨z.aj,4⟩)).2;have jV:=(sE (l:=z.ab) (n:=q.name)).2;have Uv:=(sE (l:=z.ab) (n:=w)).2;generalize aU z.ab ⟨z.aj,4⟩=i at *;by_cases he:w=[]
 ·rw [if_pos he];generalize eb z.ab q.name=j at *;have c2:=kJ z q cut b w 6 [i,j,-1] hf (fun p hp=>by simp at hp; rcases hp with rfl | rfl | rfl <;> first | assumption | omega) (by simp);simp only [List.map_cons,List.map_nil] at c2;unfold bq bh at c1 c2 c3;apply aw.oN
  case hk=>rfl
  case hc =>
   unfold bq bh;refine aw.run af (fn:=Tryz.f164) Tryz.func164 (body:=Tryz.f164.body.getD .skip) rfl (by decide) 2000 rfl ?_;(conv=>whnf);refine aW (by simp [he]) ?_;refine gO Tryz.func164 ?_;refine I.bH af bI 2000 (by kernel_rfl) ?_;(conv=>whnf);refine iO (c1) ?_;refine And.intro rfl ?_;refine gD ?_;refine iO (c3) ?_;refine And.intro rfl ?_;refine gD ?_;refine iO (c2) ?_;refine And.intro rfl ?_;refine gD ?_;refine gO Tryz.func164 ?_;exact ⟨rfl,rfl⟩
  case hr=>rfl
 ·have c4:=sJ z q cut b w w V (hw.resolve_left he);rw [if_neg he];generalize eb z.ab q.name=j at *;generalize eb z.ab w=m at *;have c2:=kJ z q cut b w 6 [i,j,m] hf (fun p hp=>by simp at hp; rcases hp with rfl | rfl | rfl <;> assumption) (by simp);simp only [List.map_cons,List.map_nil] at c2;unfold bq bh at c1 c2 c3 c4;apply aw.oN
  case hk=>rfl
  case hc =>
   unfold bq bh;refine aw.run af (fn:=Tryz.f164) Tryz.func164 (body:=Tryz.f164.body.getD .skip) rfl (by decide) 2000 rfl ?_;(conv=>whnf);refine aV (by simp [he]) ?_;refine gO Tryz.func164 ?_
   with_reducible refine bF (c4) ?_
   refine gO Tryz.func164 ?_;refine I.bH af bI 2000 (by kernel_rfl) ?_;(conv=>whnf);refine iO (c1) ?_;refine And.intro rfl ?_;refine gD ?_;refine iO (c3) ?_;refine And.intro rfl ?_;refine gD ?_;refine iO (c2) ?_;refine And.intro rfl ?_;refine gD ?_;refine gO Tryz.func164 ?_;exact ⟨rfl,rfl⟩
  case hr=>rfl
end Go.Proofs.YtfmdaiojokniiaaGreatDoor.P
end
