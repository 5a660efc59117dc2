/- Several texts of mine, one behind the other. Conditions: as each says. -/
import Derived.Test.YtfmdaiojokniiaaGreatDoorV36
set_option linter.unusedVariables false
set_option linter.unusedSimpArgs false
section
namespace Go.Proofs.YtfmdaiojokniiaaGreatDoor.P
open Go Go.aw
set_option maxRecDepth 100000
set_option maxHeartbeats 4000000
def nJ (k:Int) (l:List Signed) (c:Text):DV := .agg [.int .i64 k,.sl (l.map Signed.enc),.str c]
theorem UE {z:aG} {ps:List Int} {k:Nat} {p:Int} (hp:ps[k]? = some p) {s:Signed} (h0:0≤p) (hs:z.ab[p.toNat]? = some s):dq z.ab (cA (ps.take (k+1)))=if p∈ps.take k then dq z.ab (cA (ps.take k)) else dq z.ab (cA (ps.take k))++[s]:=by
 rw [KQ hp,Un h0 hs];have:p∈cA (ps.take k)↔p∈ps.take k:=by rw [Uk]; exact ⟨fun h=>h.2,fun h=>⟨h0,h⟩⟩
 by_cases e:p∈ps.take k
 ·rw [if_pos e,if_pos (this.2 e)]
 ·rw [if_neg e,if_neg (fun h=>e (this.1 h))]
theorem UF {ps:List Int} {k:Nat} {p:Int} (hp:ps[k]? = some p) (h0:p<0):cA (ps.take (k+1))=cA (ps.take k):=by
 rw [KQ hp,gL,if_pos (.inl h0)]
theorem UG (z:aG) (q:bj) (cut:Text) (b:Bool) (w:Text) (kind:Int) (ps:List Int) (hf:z.jG) (fM:∀ p∈ps,p<z.ab.length) (hl:ps.length≤1000):au E 238 [bw z q cut b w,bg z] [.ptr 0 0,.d (.int .i64 kind),.d (.sl (ps.map (.int .i64)))] (fun x h=>x = .d (nJ kind (dq z.ab (cA ps)) [])∧h=[bw z q cut b w,bg z,.cells [.d (.int .i64 kind),.d (.sl ((dq z.ab (cA ps)).map Signed.enc)),.d (.str [])],.cells [.d (.int .i64 kind),.d (.sl ((dq z.ab (cA ps)).map Signed.enc)),.d (.str [])],.gone]):=by
 obtain ⟨uq,ir⟩:=hf;unfold bw bg nJ;refine au.run af (fn:=Tryz.f238) Tryz.func238 (body:=Tryz.f238.body.getD .skip) rfl (by decide) 2000 rfl ?_;(conv=>whnf);refine I.mB 3 1 (102,5) (by decide) rfl rfl ?_;(conv=>whnf);refine I.loop (κ:=Nat) ([8,9,10]++rg 15 38) (fun k=>[(15,.d (.int .i64 k))]) (fun k=>[(3,.cells [.d (.int .i64 kind),.own 4 1,.d (.str [])]),(4,.arr 1 (102,5) ((dq z.ab (cA (ps.take k))).map Signed.enc))]) (fun k=>k≤ps.length) (fun k=>ps.length - k) 0 (Nat.zero_le _) ?_ ?_
 ·(conv=>whnf);repeat (first | exact trivial | (refine sI ?_; conv=>whnf))
  refine And.intro rfl ?_;exact sZ
 intro k hk IH;refine I.head af Tryz.func238 2000 ?_;(conv=>whnf);refine ai (fun h5=>?_) (fun h5=>?_)
 ·have aj:k<ps.length:=by simpa using h5
  obtain ⟨p,hp⟩:=aL aj;refine gO Tryz.func238 ?_;refine aE (e := .int .i64 p) (aX hp) rfl ?_;refine gO Tryz.func238 ?_;refine ai (fun h6=>?_) (fun h6=>?_)
  ·have h0:=of_decide_eq_true h6;have eC:=UF hp h0;refine gO Tryz.func238 ?_;refine aV ?_;refine gO Tryz.func238 ?_;refine I.back (IH (k+1) (by omega) (by omega)) ?_;rw [eC];exact sZ
  ·have h0:=of_decide_eq_false h6;obtain ⟨x,hx⟩:=aL (l:=z.ab) (k:=p.toNat) (by have:=fM p (List.mem_of_getElem? hp); omega);have eC:=UE (z:=z) hp (by omega) hx;have lk:List.drop ((none:Option Int).getD 0).toNat (List.take ((some (k:Int)).getD ((ps.map (DV.int .i64)).length:Int)).toNat (ps.map (DV.int .i64)))=(ps.take k).map (DV.int .i64):=by simp [List.map_take]
   have c1:=UA (ps.take k) p (by simp; omega);have A1:sE (z.ab.map Signed.enc) p x.enc:=by
    have:=aX (f:=Signed.enc) hx
    rwa [Int.toNat_of_nonneg (by omega)] at this
   have iT:=Um (l:=z.ab) (ps:=cA (ps.take k));have oP:=Ul (ps:=ps.take k);obtain ⟨q1,q2⟩:=ir x (List.mem_of_getElem? hx);refine gO Tryz.func238 ?_;refine a8 ⟨by simp,by simp,by simp; omega,fun e he=>by obtain ⟨y,_,rfl⟩:=List.mem_map.1 he; rfl⟩ ?_;(conv=>whnf);rw [lk];refine gO Tryz.func238 ?_;refine ao (c1) ?_;refine gO Tryz.func238 ?_;by_cases fO:p∈ps.take k
   ·rw [if_pos fO] at eC;refine bh (decide_eq_true fO) ?_;refine gO Tryz.func238 ?_;refine I.back (IH (k+1) (by omega) (by omega)) ?_;rw [eC];exact sZ
   ·rw [if_neg fO] at eC;refine aZ (decide_eq_false fO) ?_;refine gO Tryz.func238 ?_;refine aE (e:=x.enc) A1 rfl ?_;refine gO Tryz.func238 ?_;refine ao (vb (x.set.data.map Datum.enc) (by simpa using q1) (fun e h=>by obtain ⟨d,_,rfl⟩:=List.mem_map.1 h; simp [DV.cells])) ?_;refine gO Tryz.func238 ?_;refine ao (Eh (x.sigs.map cX.enc) (by simpa using q2) (fun e h=>by obtain ⟨d,_,rfl⟩:=List.mem_map.1 h; simp [DV.cells])) ?_;refine gO Tryz.func238 ?_
    refine a8 ⟨by have : (ps.take k).length ≤ 1000 := by { rw [List.length_take]; omega }
                  simp only [List.length_map, List.length_cons, List.length_nil]; omega, by simp [DV.cells]⟩ ?_
    refine gO Tryz.func238 ?_;refine I.back (IH (k+1) (by omega) (by omega)) ?_;rw [eC];(conv=>whnf);repeat (first | exact trivial | (refine sI ?_; conv=>whnf))
    refine And.intro (by simp) ?_;exact sZ
 ·have aC:ps.length≤k:=by simpa using h5
  rw [List.take_of_length_le aC];(conv=>whnf);refine I.freeze 4 ?_;(conv=>whnf);refine gO Tryz.func238 ?_;exact ⟨rfl,rfl⟩
end Go.Proofs.YtfmdaiojokniiaaGreatDoor.P
end
section
namespace Go.Proofs.YtfmdaiojokniiaaGreatDoor.P
open Go Go.aw
set_option maxRecDepth 100000
set_option maxHeartbeats 4000000
theorem UH (z:aG) (q:bj) (cut:Text) (b:Bool) (w n:Text) (hv:∀ s∈z.ab,Nm.valid s.set.name=true) (hn:Nm.valid n=true) {i:Nat} {s:Signed} (hi:z.ab[i]? = some s):au E 338 [.cells [.ptr 2 0],.cells [.d (.str n)],.cells [.d (.str z.ah),.d (.sl (z.ab.map Signed.enc)),.map 3,.d (.str q.name),.d (.int .i64 q.type),.d (.str cut),.d (.bool b),.d (.str w)],bg z] [.d (.int .i64 i),.ptr 0 0,.ptr 1 0] (fun x h=>x = .d (.bool (!iG n s))∧h=[.cells [.ptr 2 0],.cells [.d (.str n)],.cells [.d (.str z.ah),.d (.sl (z.ab.map Signed.enc)),.map 3,.d (.str q.name),.d (.int .i64 q.type),.d (.str cut),.d (.bool b),.d (.str w)],bg z]):=by
 have c1:=KY s.set.name n (hv s (List.mem_of_getElem? hi)) hn;unfold bg;refine au.run af (fn:=Tryz.f338) Tryz.func338 (body:=Tryz.f338.body.getD .skip) rfl (by decide) 2000 rfl ?_;(conv=>whnf);refine I.bH af bI 2000 (by kernel_rfl) ?_;(conv=>whnf);refine aE (e:=s.enc) (aX hi) rfl ?_;refine gD ?_;refine ay (c1) ?_;refine gD ?_;refine gO Tryz.func338 ?_;refine ⟨?_,rfl⟩;refine congrArg (fun b=>AV.d (DV.bool b)) ?_;unfold iG;rw [Bool.eq_iff_iff];simp
theorem UI (z:aG) (q:bj) (cut:Text) (b:Bool) (w n:Text) (hs:fp z.ab) (hl:z.ab.length≤1000000) (hv:∀ s∈z.ab,Nm.valid s.set.name=true) (hn:Nm.valid n=true):au E 292 [.cells [.ptr 2 0],.cells [.d (.str n)],.cells [.d (.str z.ah),.d (.sl (z.ab.map Signed.enc)),.map 3,.d (.str q.name),.d (.int .i64 q.type),.d (.str cut),.d (.bool b),.d (.str w)],bg z] [.d (.int .i64 z.ab.length),.fn (.func 338) [] [.ptr 0 0,.ptr 1 0]] (fun x h=>x = .d (.int .i64 (gv (iG n) z.ab))∧h=[.cells [.ptr 2 0],.cells [.d (.str n)],.cells [.d (.str z.ah),.d (.sl (z.ab.map Signed.enc)),.map 3,.d (.str q.name),.d (.int .i64 q.type),.d (.str cut),.d (.bool b),.d (.str w)],bg z]):=by
 have c1:=fun i s hi=>UH z q cut b w n hv hn (i:=i) (s:=s) hi;have hc:∀ i s,z.ab[i]? = some s→(iG n s=true↔i<gv (iG n) z.ab):=fun i s hi=>by rw [← le_iff hs hi]; simp [iG]
 have dm:=yk (P:=iG n) (l:=z.ab);generalize gv (iG n) z.ab=m at *;unfold bg at *;refine au.run af (fn:=Tryz.f292) Tryz.func292 (body:=Tryz.f292.body.getD .skip) rfl (by decide) 2000 rfl ?_;(conv=>whnf);refine I.loop (κ:=Nat × Nat) [5,6,7,9,10,11,12,13,14,15,16,17,18,19,20,21,22,23,24] (fun k=>[(5,.d (.int .i64 k.1)),(6,.d (.int .i64 k.2))]) (fun _=>[]) (fun k=>k.1≤m∧m≤k.2∧k.2≤z.ab.length) (fun k=>k.2 - k.1) (0,z.ab.length) ⟨Nat.zero_le _,dm,Nat.le_refl _⟩ ?_ ?_
 ·exact sZ
 rintro ⟨i,j⟩ ⟨k1,k2,k3⟩ IH;simp only at k1 k2 k3;refine I.head af Tryz.func292 2000 ?_;(conv=>whnf);refine ai (fun h5=>?_) (fun h5=>?_)
 ·have aj:i<j:=by simpa using h5
  obtain ⟨x,hx⟩:=aL (l:=z.ab) (k:=(i+j) / 2) (by omega);have xL:=KO (i:=i) (j:=j) (by omega);have yn:=hc _ x hx;refine gO Tryz.func292 ?_;refine a8 (by decide) ?_;refine gO Tryz.func292 ?_;rw [show IntKind.i64.wrap (oW .shr .u64 (IntKind.u64.wrap (IntKind.i64.wrap (((i,j).fst:Int)+((i,j).snd:Int)))) (Int.toNat 1))=(((i+j) / 2:Nat):Int) from xL]
  with_reducible refine bD (c1 _ x hx) ?_
  refine gO Tryz.func292 ?_;cases h6:iG n x
  ·have:¬ (i+j) / 2<m:=fun e=>by rw [yn.2 e] at h6; cases h6
   refine aZ (by decide) ?_;refine gO Tryz.func292 ?_;refine I.back (IH (i,(i+j) / 2) ⟨k1,by simp only; omega,by simp only; omega⟩ (by simp only; omega)) ?_;exact sZ
  ·have:=yn.1 h6;refine bh (by decide) ?_;refine gO Tryz.func292 ?_;refine I.back (IH ((i+j) / 2+1,j) ⟨by simp only; omega,k2,k3⟩ (by simp only; omega)) ?_;exact sZ
 ·have aC:i=m:=by simp at h5; omega
  subst aC;refine gO Tryz.func292 ?_;exact ⟨rfl,rfl⟩
theorem UJ (z:aG) (q:bj) (cut:Text) (b:Bool) (w n:Text):au E 295 [bw z q cut b w,bg z] [.ptr 0 0,.d (.str n)] (fun x h=>x = .fn (.func 337) [] [.ptr 2 0,.ptr 3 0]∧h=[bw z q cut b w,bg z,.cells [.ptr 0 0],.cells [.d (.str n)]]):=by
 unfold bw bg;refine au.run af (fn:=Tryz.f295) Tryz.func295 (body:=Tryz.f295.body.getD .skip) rfl (by decide) 2000 rfl ?_;(conv=>whnf);exact ⟨rfl,rfl⟩
theorem UK {P:Nat→Bool} {k:Nat}:oG P (k+1)=if P k then (k:Int) else oG P k:=rfl
theorem UL (z:aG) (q:bj) (cut:Text) (b:Bool) (w n:Text) (hs:fp z.ab) (hl:z.ab.length≤1000000) (hv:∀ s∈z.ab,Nm.valid s.set.name=true) (hn:Nm.valid n=true):au E 241 [bw z q cut b w,bg z] [.ptr 0 0,.d (.str n)] (fun x h=>x = .d (.int .i64 (ea z.ab n))∧h=[bw z q cut b w,bg z,.cells [.ptr 0 0],.cells [.d (.int .i64 (ea z.ab n))],.cells [.ptr 0 0],.cells [.d (.str n)]]):=by
 have c1:=UJ z q cut b w n;have c2:=UI z q cut b w n hs hl hv hn;have dm:=yk (P:=iG n) (l:=z.ab);unfold ea;generalize gv (iG n) z.ab=m at *;unfold bg at c2;unfold bw bg at c1;unfold bw bg;refine au.run af (fn:=Tryz.f241) Tryz.func241 (body:=Tryz.f241.body.getD .skip) rfl (by decide) 2000 rfl ?_;conv=>whnf
 with_reducible refine bD (c1) ?_
 refine gO Tryz.func241 ?_;refine I.rangeFunc (aP rfl) Tryz.func337 rfl (by decide) rfl (fun ll d t=>?_);refine gO Tryz.func337 ?_;rw [show ((z.ab.map Signed.enc).length:Int)=(z.ab.length:Int) by simp]
 with_reducible refine bD (c2) ?_
 refine gO Tryz.func337 ?_;refine I.loop (κ:=Nat) ([5]++rg 15 8) (fun k=>[(5,.d (.int .i64 ((k:Int) - 1)))]) (fun k=>[]) (fun k=>k≤m∧oG (vu z.ab) m=oG (vu z.ab) k) (fun k=>k) m ⟨Nat.le_refl _,rfl⟩ ?_ ?_
 ·exact sZ
 rintro k ⟨hk,oF⟩ IH;refine I.head af Tryz.func337 2000 ?_;(conv=>whnf);refine ai (fun h5=>?_) (fun h5=>?_)
 ·have h5:=of_decide_eq_true h5;obtain ⟨k,rfl⟩:∃ j,k=j+1:=⟨k - 1,by omega⟩;obtain ⟨x,hx⟩:=aL (l:=z.ab) (k:=k) (by omega);have A1:sE (z.ab.map Signed.enc) (((k+1:Nat):Int) - 1) x.enc:=by
   rw [show (((k+1:Nat):Int) - 1)=(k:Int) by omega];exact aX hx
  have hw:IntKind.i64.wrap ((((k+1:Nat):Int) - 1) - 1)=(k:Int) - 1:=by rw [wrap64 (by omega) (by omega)]; omega
  have Db:vu z.ab k=(x.set.type==8):=by simp [vu,hx]
  rw [UK,Db] at oF;refine gO Tryz.func337 ?_;refine I.yield 0 rfl rfl rfl (aP rfl) (lG (aP rfl)) rfl ?_;(conv=>whnf);refine gO Tryz.func241 ?_;refine I.begin 0 rfl rfl rfl ?_;(conv=>whnf);refine gO Tryz.func241 ?_;refine aE (e:=x.enc) A1 rfl ?_;refine gO Tryz.func241 ?_;cases ht:(x.set.type==8)
  ·rw [ht] at oF;refine aQ ?_;refine gO Tryz.func241 ?_;refine I.mC 0 rfl rfl rfl ?_;(conv=>whnf);refine gO Tryz.func337 ?_;refine aZ (by decide) ?_;refine gO Tryz.func337 ?_;refine I.back (IH k ⟨by omega,oF⟩ (by omega)) ?_;exact sZ
  ·rw [ht] at oF;refine aV ?_;refine gO Tryz.func241 ?_;refine I.zW 0 rfl rfl rfl ?_;(conv=>whnf);refine gO Tryz.func337 ?_;refine bh (by decide) ?_;refine gO Tryz.func337 ?_;refine I.iD af Tryz.func337 rfl rfl rfl rfl (fun e=>nomatch e) ?_;(conv=>whnf);refine gO Tryz.func241 ?_;refine I.fS af Tryz.func241 rfl rfl rfl rfl rfl ?_;(conv=>whnf);rw [oF,if_pos rfl,show (((k+1:Nat):Int) - 1)=(k:Int) by omega];exact ⟨rfl,rfl⟩
 ·have aC:k=0:=by have:=of_decide_eq_false h5; omega
  subst aC;refine gO Tryz.func337 ?_;refine I.iD af Tryz.func337 rfl rfl rfl rfl (fun e=>nomatch e) ?_;(conv=>whnf);refine gO Tryz.func241 ?_;refine I.fS af Tryz.func241 rfl rfl rfl rfl rfl ?_;(conv=>whnf);rw [oF];exact ⟨rfl,rfl⟩
end Go.Proofs.YtfmdaiojokniiaaGreatDoor.P
end
section
namespace Go.Proofs.YtfmdaiojokniiaaGreatDoor.P
open Go Go.aw
set_option maxRecDepth 100000
set_option maxHeartbeats 4000000
theorem yo (z:aG) (q:bj) (cut:Text) (b:Bool) (w n:Text) (V:gM z) (hn:Nm.valid n=true):au E 239 [bw z q cut b w,bg z] [.ptr 0 0,.d (.str n)] (fun x h=>x = .d (.bool (jm z.ab n))∧h=[bw z q cut b w,bg z]) :=
 au.pg (UD z q cut b w n V.sorted (by have:=V.len; omega) V.names hn) rfl rfl
theorem tc (z:aG) (q:bj) (cut:Text) (b:Bool) (w n:Text) (V:gM z) (hn:Nm.valid n=true):au E 241 [bw z q cut b w,bg z] [.ptr 0 0,.d (.str n)] (fun x h=>x = .d (.int .i64 (ea z.ab n))∧h=[bw z q cut b w,bg z]) :=
 au.pg (UL z q cut b w n V.sorted (by have:=V.len; omega) V.names hn) rfl rfl
theorem kY (z:aG) (q:bj) (cut:Text) (b:Bool) (w:Text) (kind:Int) (ps:List Int) (hf:z.jG) (fM:∀ p∈ps,p<z.ab.length) (hl:ps.length≤1000):au E 238 [bw z q cut b w,bg z] [.ptr 0 0,.d (.int .i64 kind),.d (.sl (ps.map (.int .i64)))] (fun x h=>x = .d (nJ kind (dq z.ab (cA ps)) [])∧h=[bw z q cut b w,bg z]) :=
 au.pg (UG z q cut b w kind ps hf fM hl) rfl rfl
theorem UM (z:aG) (q:bj) (cut:Text) (b:Bool) (w:Text) (V:gM z) (hf:z.jG):au E 158 [bw z q cut b w,bg z] [.ptr 0 0] (fun x h=>x = .aD [.d (nJ 1 (dq z.ab (cA [aU z.ab q])) []),.d (.bool (decide (aU z.ab q≥0)))]∧h=[bw z q cut b w,bg z]):=by
 have c1:=pQ z q cut b w q.name q.type V.sorted;have c2:=kY z q cut b w 1 [aU z.ab q] hf (fun p hp=>by simp at hp; subst hp; exact fX.2) (by simp);simp only [List.map_cons,List.map_nil] at c2;unfold bw bg at c1 c2;apply au.pg
 case hk=>rfl
 case hc =>
  unfold bw bg;refine au.run af (fn:=Tryz.f158) Tryz.func158 (body:=Tryz.f158.body.getD .skip) rfl (by decide) 2000 rfl ?_;(conv=>whnf);refine I.bH af bI 2000 (by kernel_rfl) ?_;(conv=>whnf);refine iX (c1) ?_;refine And.intro rfl ?_;refine gD ?_;refine gO Tryz.func158 ?_
  with_reducible refine bD (c2) ?_
  refine gO Tryz.func158 ?_;exact ⟨rfl,rfl⟩
 case hr=>rfl
theorem UN (z:aG) (q:bj) (cut:Text) (b:Bool) (w:Text) (V:gM z) (hf:z.jG):au E 159 [bw z q cut b w,bg z] [.ptr 0 0] (fun x h=>x = .aD [.d (nJ 3 (dq z.ab (cA [aU z.ab ⟨q.name,3⟩])) []),.d (.bool (decide (aU z.ab ⟨q.name,3⟩≥0)&&(q.type != 8)))]∧h=[bw z q cut b w,bg z]):=by
 have c1:=pQ z q cut b w q.name 3 V.sorted;have aj:=(fX (l:=z.ab) (q:=⟨q.name,3⟩)).2;generalize aU z.ab ⟨q.name,3⟩=i at *;have c2:=kY z q cut b w 3 [i] hf (fun p hp=>by simp at hp; subst hp; exact aj) (by simp);simp only [List.map_cons,List.map_nil] at c2;unfold bw bg at c1 c2;apply au.pg
 case hk=>rfl
 case hc =>
  unfold bw bg;refine au.run af (fn:=Tryz.f159) Tryz.func159 (body:=Tryz.f159.body.getD .skip) rfl (by decide) 2000 rfl ?_;conv=>whnf
  with_reducible refine bD (c1) ?_
  refine gO Tryz.func159 ?_;refine I.bH af bI 2000 (by kernel_rfl) ?_;(conv=>whnf);refine C0 (c2) ?_;refine gD ?_;by_cases h:i≥0
  ·refine bh (decide_eq_true h) ?_;refine gD ?_;refine And.intro (by kernel_rfl) ?_;(conv=>whnf);refine gO Tryz.func159 ?_;rw [decide_eq_true h,Bool.true_and];exact ⟨rfl,rfl⟩
  ·refine aZ (decide_eq_false h) ?_;refine gD ?_;refine And.intro (by kernel_rfl) ?_;(conv=>whnf);refine gO Tryz.func159 ?_;rw [decide_eq_false h,Bool.false_and];exact ⟨rfl,rfl⟩
 case hr=>rfl
theorem K0 (z:aG) (q:bj) (cut:Text) (b:Bool) (w:Text) (V:gM z) (hf:z.jG) (hq:Nm.valid q.name=true):au E 161 [bw z q cut b w,bg z] [.ptr 0 0] (fun x h=>x = .aD [.d (nJ 2 (dq z.ab (cA [aU z.ab ⟨w,q.type⟩,ea z.ab q.name])) []),.d (.bool (decide (aU z.ab ⟨w,q.type⟩≥0)))]∧h=[bw z q cut b w,bg z]):=by
 have c1:=pQ z q cut b w w q.type V.sorted;have c3:=tc z q cut b w q.name V hq;have aj:=(fX (l:=z.ab) (q:=⟨w,q.type⟩)).2;have lN:=(s9 (l:=z.ab) (n:=q.name)).2;generalize aU z.ab ⟨w,q.type⟩=i at *;generalize ea z.ab q.name=j at *;have c2:=kY z q cut b w 2 [i,j] hf (fun p hp=>by simp at hp; rcases hp with rfl | rfl <;> assumption) (by simp);simp only [List.map_cons,List.map_nil] at c2;unfold bw bg at c1 c2 c3;apply au.pg
 case hk=>rfl
 case hc =>
  unfold bw bg;refine au.run af (fn:=Tryz.f161) Tryz.func161 (body:=Tryz.f161.body.getD .skip) rfl (by decide) 2000 rfl ?_;(conv=>whnf);refine I.bH af bI 2000 (by kernel_rfl) ?_;(conv=>whnf);refine iX (c1) ?_;refine And.intro rfl ?_;refine gD ?_;refine gO Tryz.func161 ?_
  with_reducible refine bD (c3) ?_
  refine gO Tryz.func161 ?_
  with_reducible refine bD (c2) ?_
  refine gO Tryz.func161 ?_;exact ⟨rfl,rfl⟩
 case hr=>rfl
theorem K3 (z:aG) (q:bj) (cut:Text) (b:Bool) (w:Text) (V:gM z) (hf:z.jG) (hq:Nm.valid q.name=true):au E 162 [bw z q cut b w,bg z] [.ptr 0 0] (fun x h=>x = .aD [.d (nJ 3 (dq z.ab (cA [aU z.ab ⟨w,3⟩,ea z.ab q.name])) []),.d (.bool (decide (aU z.ab ⟨w,3⟩≥0)&&(q.type != 8)))]∧h=[bw z q cut b w,bg z]):=by
 have c1:=pQ z q cut b w w 3 V.sorted;have c3:=tc z q cut b w q.name V hq;have aj:=(fX (l:=z.ab) (q:=⟨w,3⟩)).2;have lN:=(s9 (l:=z.ab) (n:=q.name)).2;generalize aU z.ab ⟨w,3⟩=i at *;generalize ea z.ab q.name=j at *;have c2:=kY z q cut b w 3 [i,j] hf (fun p hp=>by simp at hp; rcases hp with rfl | rfl <;> assumption) (by simp);simp only [List.map_cons,List.map_nil] at c2;unfold bw bg at c1 c2 c3;apply au.pg
 case hk=>rfl
 case hc =>
  unfold bw bg;refine au.run af (fn:=Tryz.f162) Tryz.func162 (body:=Tryz.f162.body.getD .skip) rfl (by decide) 2000 rfl ?_;conv=>whnf
  with_reducible refine bD (c1) ?_
  refine gO Tryz.func162 ?_;refine I.bH af bI 2000 (by kernel_rfl) ?_;(conv=>whnf);refine iX (c3) ?_;refine And.intro rfl ?_;refine gD ?_;refine iX (c2) ?_;refine And.intro rfl ?_;refine gD ?_;by_cases h:i≥0
  ·refine bh (decide_eq_true h) ?_;refine gD ?_;refine gO Tryz.func162 ?_;rw [decide_eq_true h,Bool.true_and];exact ⟨rfl,rfl⟩
  ·refine aZ (decide_eq_false h) ?_;refine gD ?_;refine gO Tryz.func162 ?_;rw [decide_eq_false h,Bool.false_and];exact ⟨rfl,rfl⟩
 case hr=>rfl
theorem K4 (z:aG) (q:bj) (cut:Text) (b:Bool) (w:Text) (V:gM z) (hf:z.jG) (hq:Nm.valid q.name=true) (hw:w=[]∨Nm.valid w=true):au E 164 [bw z q cut b w,bg z] [.ptr 0 0] (fun x h=>x = .d (nJ 6 (dq z.ab (cA (if w=[] then [aU z.ab ⟨z.ah,4⟩,ea z.ab q.name,-1] else [aU z.ab ⟨z.ah,4⟩,ea z.ab q.name,ea z.ab w]))) [])∧h=[bw z q cut b w,bg z]):=by
 have c1:=E4 z q cut b w V.sorted;have c3:=tc z q cut b w q.name V hq;have aj:=(fX (l:=z.ab) (q:=⟨z.ah,4⟩)).2;have lN:=(s9 (l:=z.ab) (n:=q.name)).2;have UO:=(s9 (l:=z.ab) (n:=w)).2;generalize aU z.ab ⟨z.ah,4⟩=i at *;by_cases he:w=[]
 ·rw [if_pos he];generalize ea z.ab q.name=j at *;have c2:=kY z q cut b w 6 [i,j,-1] hf (fun p hp=>by simp at hp; rcases hp with rfl | rfl | rfl <;> first | assumption | omega) (by simp);simp only [List.map_cons,List.map_nil] at c2;unfold bw bg at c1 c2 c3;apply au.pg
  case hk=>rfl
  case hc =>
   unfold bw bg;refine au.run af (fn:=Tryz.f164) Tryz.func164 (body:=Tryz.f164.body.getD .skip) rfl (by decide) 2000 rfl ?_;(conv=>whnf);refine aZ (by simp [he]) ?_;refine gO Tryz.func164 ?_;refine I.bH af bI 2000 (by kernel_rfl) ?_;(conv=>whnf);refine iX (c1) ?_;refine And.intro rfl ?_;refine gD ?_;refine iX (c3) ?_;refine And.intro rfl ?_;refine gD ?_;refine iX (c2) ?_;refine And.intro rfl ?_;refine gD ?_;refine gO Tryz.func164 ?_;exact ⟨rfl,rfl⟩
  case hr=>rfl
 ·have c4:=tc z q cut b w w V (hw.resolve_left he);rw [if_neg he];generalize ea z.ab q.name=j at *;generalize ea z.ab w=m at *;have c2:=kY z q cut b w 6 [i,j,m] hf (fun p hp=>by simp at hp; rcases hp with rfl | rfl | rfl <;> assumption) (by simp);simp only [List.map_cons,List.map_nil] at c2;unfold bw bg at c1 c2 c3 c4;apply au.pg
  case hk=>rfl
  case hc =>
   unfold bw bg;refine au.run af (fn:=Tryz.f164) Tryz.func164 (body:=Tryz.f164.body.getD .skip) rfl (by decide) 2000 rfl ?_;(conv=>whnf);refine bh (by simp [he]) ?_;refine gO Tryz.func164 ?_
   with_reducible refine bD (c4) ?_
   refine gO Tryz.func164 ?_;refine I.bH af bI 2000 (by kernel_rfl) ?_;(conv=>whnf);refine iX (c1) ?_;refine And.intro rfl ?_;refine gD ?_;refine iX (c3) ?_;refine And.intro rfl ?_;refine gD ?_;refine iX (c2) ?_;refine And.intro rfl ?_;refine gD ?_;refine gO Tryz.func164 ?_;exact ⟨rfl,rfl⟩
  case hr=>rfl
end Go.Proofs.YtfmdaiojokniiaaGreatDoor.P
end
