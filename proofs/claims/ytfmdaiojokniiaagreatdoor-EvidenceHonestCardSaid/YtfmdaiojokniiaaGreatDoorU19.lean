/- Lemmas of mine. Conditions: as stated. -/
import Derived.Test.YtfmdaiojokniiaaGreatDoorU14
import Derived.Test.YtfmdaiojokniiaaGreatDoorU16
import Derived.Test.YtfmdaiojokniiaaGreatDoorU18
set_option linter.unusedVariables false
set_option linter.unusedSimpArgs false
section
namespace Go.Proofs.YtfmdaiojokniiaaGreatDoor.P
open Go Go.ay
set_option maxRecDepth 100000
set_option maxHeartbeats 4000000
def kY(e:Entry):List DV:=iI e.signed++eO e.aw++fO e.upto
def kZ(x:cW):List DV:=fO x.time++fO x.addr++jg x.q++[.int .u8 (IntKind.u8.wrap x.answer.kind)]++eO x.answer.cut++kX x.answer.ae
def oy(t:cP):List DV:=jg t.q++fO t.time++il t.cache.list.length
def rJ(v:lK):List DV:=[.int .u8 (IntKind.u8.wrap v.kind)]++jg v.q++kX v.ae
def pY(t:cP):List DV:=oy t++t.cache.list.flatMap kY++il t.heard.length++t.heard.flatMap kZ++rJ t.result
theorem Dk(e:Entry):∀ x∈kY e,isByte x:=fun x hx=>by
 simp only[kY,List.mem_append]at hx;rcases hx with(h|h)|h
 ·exact AB _ x h
 ·exact kO _ x h
 ·exact gb _ x h
theorem HH(e:cW):∀ x∈kZ e,isByte x:=fun x hx=>by
 simp only[kZ,List.mem_append]at hx;rcases hx with((((h|h)|h)|h)|h)|h
 ·exact gb _ x h
 ·exact gb _ x h
 ·exact xX _ x h
 ·exact ow _ x h
 ·exact kO _ x h
 ·exact NU _ x h
theorem NW(t:cP):eS (oy t):=⟨by simp[oy,jg,eO],fun x hx=>by
 simp only[oy,List.mem_append]at hx;rcases hx with(h|h)|h
 ·exact xX _ x h
 ·exact gb _ x h
 ·exact mJ _ x h⟩
theorem X'(v:lK):∀ x∈rJ v,isByte x:=fun x hx=>by
 simp only[rJ,List.mem_append]at hx;rcases hx with(h|h)|h
 ·exact ow _ x h
 ·exact xX _ x h
 ·exact NU _ x h
theorem Ya(t:cP):eS (pY t):=(((NW t).more (lv Dk)).more (mJ _)).more (lv HH) |>.more (X' _)
structure cP.nB(t:cP):Prop where
 cl:t.cache.list.length<=maxLen
 ce:∀ e∈t.cache.list,e.signed.nB
 hl:t.heard.length<=maxLen
 he:∀ x∈t.heard,x.answer.ae.length<=maxLen/\∀ s∈x.answer.ae,s.nB
 rl:t.result.ae.length<=maxLen
 re:∀ s∈t.result.ae,s.nB
theorem Yb(t:cP)(hf:t.nB)(hl:(pY t).length<=140737488355328):ar E 121 [.cells [.d .aH,.d (.int .i64 0),.d (.int .i8 0)]] [.ptr 0 0,.d t.enc] (fun a b=>a=.aD []/\b=[.cells [.own 3 25,.d (.int .i64 0),.d (.int .i8 0)],.cells [.d (.str t.q.name),.d (.int .i64 t.q.type),.d (.int .i64 t.time),.d (.sl (t.cache.list.map Entry.enc)),.d (.sl (t.heard.map cW.enc)),.d (.int .i64 t.result.kind),.d (.str t.result.q.name),.d (.int .i64 t.result.q.type),.d (.sl (t.result.ae.map Signed.enc))],.cells [.d (.str t.q.name),.d (.int .i64 t.q.type)],.arr 25 (5,1) (pY t)]):=by
 have hlen:(pY t).length=(oy t).length+(t.cache.list.flatMap kY).length+4+(t.heard.flatMap kZ).length+(rJ t.result).length:=by simp only[pY,List.length_append,gJ]
 have hhd:(oy t).length=(jg t.q).length+8+4:=by simp only[oy,List.length_append,gJ,dv]
 have Fq:(rJ t.result).length=1+(jg t.result.q).length+(kX t.result.ae).length:=by simp only[rJ,List.length_append,List.length_singleton]
 have AF:=NW t;have AG:=(AF.more (lv (f:=kY) (l:=t.cache.list) Dk)).more (mJ t.heard.length);have gv:pY t=oy t++t.cache.list.flatMap kY++il t.heard.length++t.heard.flatMap kZ++rJ t.result:=rfl;rw[gv];have hM1:jg t.q++fO t.time++il t.cache.list.length=oy t:=rfl;generalize Yc:oy t=M1 at *;obtain⟨h1,h2,h3,h4,h5,h6⟩:=hf;have b1:eS (jg t.q):=⟨by simp[jg,eO],xX _⟩;have b2:=b1.more (gb t.time);clear gv;obtain⟨⟨qn,qt⟩,at_,⟨cl⟩,l,⟨rk,⟨rn,rt⟩,rl⟩⟩:=t;simp only at *;unfold maxLen at h1 h3;show ar E _ _ [_,.d (DV.agg [.str qn,.int .i64 qt,.int .i64 at_,.sl (cl.map Entry.enc),.sl (l.map cW.enc),.int .i64 rk,.str rn,.int .i64 rt,.sl (rl.map Signed.enc)])] _;refine ar.run ab (fn:=Tryz.f121) Tryz.func121 (body:=Tryz.f121.body.getD .skip) rfl (by decide) 2000 rfl ?_;conv=>whnf
 with_reducible refine aO (X9 ⟨qn,qt⟩ (by omega)) ?_
 refine gO F121 ?_
 with_reducible refine aO (nA at_ _ b1 (by omega)) ?_
 refine gO F121 ?_
 with_reducible refine aO (AA _ _ b2 (by simp only[List.length_append,dv];omega)) ?_
 refine gO F121 ?_;refine I.loop (κ:=Nat) ([5]++rg 26 17) (fun k=>[(26,.d (.int .i64 k))]) (fun k=>[(0,.cells [.own 3 20,.d (.int .i64 0),.d (.int .i8 0)]),(3,.arr 20 (5,1) (M1++(cl.take k).flatMap kY))]) (fun k=>k<=cl.length) (fun k=>cl.length-k) 0 (Nat.zero_le _) ?_ ?_
 ·(conv=>whnf);repeat (first|exact trivial|(refine sI ?_;conv=>whnf))
  refine And.intro (by rw[<- Yc];simp[oy]) ?_;exact sZ
 intro k hk IH;refine I.head ab F121 2000 ?_;(conv=>whnf);refine ai (fun h7=>?_) (fun h7=>?_)
 ·have ah:k<cl.length:=by simpa using h7
  obtain⟨x,hx⟩:=aG ah;have nV:=AD (f:=kY) hx;have gP:(kY x).length=(iI x.signed).length+(eO x.aw).length+8:=by simp only[kY,List.length_append,dv]
  obtain⟨f1,f2,f3⟩:=h2 x (List.mem_of_getElem? hx);have b0:=AF.more (lv (f:=kY) (l:=cl.take k) Dk);refine gO F121 ?_;refine aB (e:=x.enc) (aN hx) rfl ?_;refine gO F121 ?_
  with_reducible refine aO (NS x.signed f1 f2 f3 _ b0 (by simp only[List.length_append,List.length_singleton,dv,gJ];omega)) ?_
  refine gO F121 ?_
  with_reducible refine aO (xW x.aw _ (b0.more (AB _)) (by simp only[List.length_append,List.length_singleton,dv,gJ];omega)) ?_
  refine gO F121 ?_
  with_reducible refine aO (nA x.upto _ ((b0.more (AB _)).more (kO _)) (by simp only[List.length_append,List.length_singleton,dv,gJ];omega)) ?_
  refine gO F121 ?_;refine I.back (IH (k+1) (by omega) (by omega)) ?_;(conv=>whnf);repeat (first|exact trivial|(refine sI ?_;conv=>whnf))
  refine And.intro (by rw[<- AE hx];simp only[kY,List.append_assoc]) ?_;exact sZ
 have aA:cl.length<=k:=by simpa using h7
 rw[List.take_of_length_le aA];refine gO F121 ?_
 with_reducible refine aO (AA _ _ (AF.more (lv Dk)) (by simp only[List.length_append,List.length_singleton,dv,gJ];omega)) ?_
 refine gO F121 ?_;refine I.loop (κ:=Nat) ([7]++rg 51 32) (fun k=>[(51,.d (.int .i64 k))]) (fun k=>[(0,.cells [.own 3 20,.d (.int .i64 0),.d (.int .i8 0)]),(3,.arr 20 (5,1) (M1++cl.flatMap kY++il l.length++(l.take k).flatMap kZ))]) (fun k=>k<=l.length) (fun k=>l.length-k) 0 (Nat.zero_le _) ?_ ?_
 ·(conv=>whnf);repeat (first|exact trivial|(refine sI ?_;conv=>whnf))
  refine And.intro (by simp) ?_;exact sZ
 intro k hk IH;refine I.head ab F121 2000 ?_;(conv=>whnf);refine ai (fun h8=>?_) (fun h8=>?_)
 ·have ah:k<l.length:=by simpa using h8
  obtain⟨x,hx⟩:=aG ah;have nV:=AD (f:=kZ) hx;have gP:(kZ x).length=16+(jg x.q).length+1+(eO x.answer.cut).length+(kX x.answer.ae).length:=by simp only[kZ,List.length_append,List.length_singleton,dv]
  obtain⟨f1,f2⟩:=h4 x (List.mem_of_getElem? hx);have c0:=AG.more (lv (f:=kZ) (l:=l.take k) HH);have c1:=c0.more (gb x.time);have c2:=c1.more (gb x.addr);have c3:=c2.more (xX x.q);have c4:=c3.more (ow (IntKind.u8.wrap x.answer.kind));have c5:=c4.more (kO x.answer.cut);refine gO F121 ?_;refine aB (e:=x.enc) (aN hx) rfl ?_;refine gO F121 ?_
  with_reducible refine aO (nA x.time _ c0 (by simp only[List.length_append,List.length_singleton,dv,gJ];omega)) ?_
  refine gO F121 ?_
  with_reducible refine aO (nA x.addr _ c1 (by simp only[List.length_append,List.length_singleton,dv,gJ];omega)) ?_
  refine gO F121 ?_
  with_reducible refine aO (NQ x.q _ c2 (by simp only[List.length_append,List.length_singleton,dv,gJ];omega)) ?_
  refine gO F121 ?_
  with_reducible refine aO (rI x.answer.kind _ c3 (by simp only[List.length_append,List.length_singleton,dv,gJ];omega)) ?_
  refine gO F121 ?_
  with_reducible refine aO (xW x.answer.cut _ c4 (by simp only[List.length_append,List.length_singleton,dv,gJ];omega)) ?_
  refine gO F121 ?_
  with_reducible refine aO (NV x.answer.ae f1 f2 _ c5 (by simp only[List.length_append,List.length_singleton,dv,gJ];omega)) ?_
  refine gO F121 ?_;refine I.back (IH (k+1) (by omega) (by omega)) ?_;(conv=>whnf);repeat (first|exact trivial|(refine sI ?_;conv=>whnf))
  refine And.intro (by rw[<- AE hx];simp only[kZ,List.append_assoc]) ?_;exact sZ
 have aA:l.length<=k:=by simpa using h8
 rw[List.take_of_length_le aA];have d0:=AG.more (lv (f:=kZ) (l:=l) HH);have d1:=d0.more (ow (IntKind.u8.wrap rk));have d2:=d1.more (xX ⟨rn,rt⟩);refine gO F121 ?_
 with_reducible refine aO (rI rk _ d0 (by simp only[List.length_append,List.length_singleton,dv,gJ];omega)) ?_
 refine gO F121 ?_
 with_reducible refine aO (NQ ⟨rn,rt⟩ _ d1 (by simp only[List.length_append,List.length_singleton,dv,gJ];omega)) ?_
 refine gO F121 ?_
 with_reducible refine aO (NV rl h5 h6 _ d2 (by simp only[List.length_append,List.length_singleton,dv,gJ];omega)) ?_
 refine gO F121 ?_;exact⟨rfl,by simp only[rJ,List.append_assoc]⟩
theorem Yd{E:Env}(hE:E.OK){s:List AV}{h:List af}{t e b g:Nat}{ti ei:br}{x y:Operand}{ts:Nat × Nat}{m:List DV}{j:IntKind}(hi:E.T[t]?=some ti)(hk:ti.k=.slice e)(bT:E.T[e]?=some ei)
  (hv:aZ E.G s x (.own b g)) (hy:aZ E.G s y (.d (.int j 0))) (hb:h[b]?=some (.arr g ts m)) (hm:m≠[]):bw E (.slice t x (some y) none none) s h (.own b g) h:=by
 refine .quiet fun o c ac e1 h2 h3 h4=>?_;subst h2;obtain⟨me,d,g1,g2,g3,-⟩:=cD (hE.types t ti hi);obtain rfl:=lj (hk.symm.trans g3);rcases kC hb (hv c ac h3 h4)with⟨blk,cap,q1,q2⟩|⟨hn,-,-⟩
 case inr=>exact absurd hn hm
 have q4:m.length<=cap:=by
  obtain⟨-,-,q2⟩:=h3.box b _ hb;rcases q2 with⟨q2,-⟩|⟨iM,gV,us,q2,q3,q4,q5,q6,q7⟩
  ·rw[q1]at q2;cases q2
  ·rw[q1]at q2;cases q2;exact q5
 have mc:=dW (hy c ac h3 h4);have cQ:=List.length_pos_iff.2 hm;have kg:=El (P:=E.P) (w:=c.w) (isSlice:=true) (len:=m.length) (cap:=cap) (lo:=some (.int j 0)) (hi:=none) (l:=some (0:Int)) (u:=none) ⟨j,rfl⟩ rfl (by simp) (by simp) (by simp) (by omega);simp only[Option.getD_some,Option.getD_none,Int.toNat_natCast]at kg;refine⟨_,?_,.own b g ts m blk cap hb q1⟩;simp only[execOp,e1,q2,mc,Instr.sliceAt,Instr.slice,Sem.run_bind,Sem.run_pure,Result.andThen_ok,run_underlying g2,Option.map_none,Option.map_some,kg,ay.run_sizeOf (hE.types e ei bT),mN];split
 ·simp
 ·simp
theorem Ye(L:List DV):ar E 125 [.cells [.own 1 0,.d (.int .i64 0),.d (.int .i8 0)],.arr 0 (5,1) L] [.ptr 0 0] (fun a b=>a=.d (.int .i64 (IntKind.i64.wrap (L.length-0)))/\b=[.cells [.own 1 0,.d (.int .i64 0),.d (.int .i8 0)],.arr 0 (5,1) L]):=by
 refine ar.run ab (fn:=Tryz.f125) Tryz.func125 (body:=Tryz.f125.body.getD .skip) rfl (by decide) 2000 rfl ?_;(conv=>whnf);refine I.bJ ab bG 2000 (by kernel_rfl) ?_;(conv=>whnf);refine gO Tryz.func125 ?_;exact⟨rfl,rfl⟩
theorem NX(L:List DV)(hL:L≠[]):ar E 124 [.cells [.own 1 0,.d (.int .i64 0),.d (.int .i8 0)],.arr 0 (5,1) L] [.ptr 0 0] (fun a b=>a=.own 1 0/\b=[.cells [.own 1 0,.d (.int .i64 0),.d (.int .i8 0)],.arr 0 (5,1) L]):=by
 refine ar.run ab (fn:=Tryz.f124) Tryz.func124 (body:=Tryz.f124.body.getD .skip) rfl (by decide) 2000 rfl ?_;(conv=>whnf);refine I.bJ ab bG 2000 (by kernel_rfl) ?_;(conv=>whnf);refine bM.at rfl ?_;(conv=>whnf);refine kJ.op (Yd ab (m:=L) rfl rfl rfl (aS rfl) (aS rfl) rfl hL) ?_;refine gD ?_;refine And.intro (by kernel_rfl) ?_;(conv=>whnf);refine gO Tryz.func124 ?_;exact⟨rfl,rfl⟩
theorem YJ(a b:List Datum)(hl:a.length<=2147483648):aq E 113 [.sl (a.map Datum.enc),.sl (b.map Datum.enc)] (· = .bool (decide (a=b))):=by
 refine eP F113 ?_;refine ai (fun h3=>?_) (fun h3=>?_)
 ·have aI:a≠b:=by rintro rfl;simp at h3
  rw[decide_eq_false aI];refine gO F113 ?_
  with_reducible rfl
 have oE:a.length=b.length:=by simp at h3;omega
 refine gO F113 ?_;refine I.loop (κ:=Nat) ([4,5]++rg 13 13) (fun k=>[(13,.d (.int .i64 k))]) (fun _=>[]) (fun k=>k<=a.length/\a.take k=b.take k) (fun k=>a.length-k) 0 ⟨Nat.zero_le _,rfl⟩ ?_ ?_
 ·exact sZ
 intro k hk IH;refine I.head ab F113 2000 ?_;(conv=>whnf);refine ai (fun h7=>?_) (fun h7=>?_)
 ·have ah:k<a.length:=by simpa using h7
  obtain⟨u,hu⟩:=aG ah;obtain⟨w,hw⟩:=aG (l:=b) (k:=k) (by omega);refine gO F113 ?_;refine I.bJ ab bG 2000 (by kernel_rfl) ?_;(conv=>whnf);refine aB (e:=u.enc) (aN hu) rfl ?_;refine gD ?_;refine aB (e:=w.enc) (aN hw) rfl ?_;refine gD ?_;refine gO F113 ?_;refine ai (fun h8=>?_) (fun h8=>?_)
  ·have aI:u≠w:=by rintro rfl;simp at h8
   refine gO F113 ?_;rw[decide_eq_false (od hu hw aI)]
  ·have e1:u=w:=by
    obtain⟨u1,u2,u3⟩:=u;obtain⟨w1,w2,w3⟩:=w;simp at h8;simp[h8]
   refine gO F113 ?_;refine I.back (IH (k+1) ⟨by omega,qX hk.2 hu hw e1⟩ (by omega)) ?_;exact sZ
 ·have aA:k=a.length:=by simp at h7;omega
  have vy:a=b:=qY hk.2 (by omega) (by omega);refine gO F113 ?_;simp[vy]
theorem YK(a b:List da)(hl:a.length<=2147483648):aq E 114 [.sl (a.map da.enc),.sl (b.map da.enc)] (· = .bool (decide (a=b))):=by
 refine eP F114 ?_;refine ai (fun h3=>?_) (fun h3=>?_)
 ·have aI:a≠b:=by rintro rfl;simp at h3
  rw[decide_eq_false aI];refine gO F114 ?_
  with_reducible rfl
 have oE:a.length=b.length:=by simp at h3;omega
 refine gO F114 ?_;refine I.loop (κ:=Nat) ([4,5]++rg 13 13) (fun k=>[(13,.d (.int .i64 k))]) (fun _=>[]) (fun k=>k<=a.length/\a.take k=b.take k) (fun k=>a.length-k) 0 ⟨Nat.zero_le _,rfl⟩ ?_ ?_
 ·exact sZ
 intro k hk IH;refine I.head ab F114 2000 ?_;(conv=>whnf);refine ai (fun h7=>?_) (fun h7=>?_)
 ·have ah:k<a.length:=by simpa using h7
  obtain⟨u,hu⟩:=aG ah;obtain⟨w,hw⟩:=aG (l:=b) (k:=k) (by omega);refine gO F114 ?_;refine I.bJ ab bG 2000 (by kernel_rfl) ?_;(conv=>whnf);refine aB (e:=u.enc) (aN hu) rfl ?_;refine gD ?_;refine aB (e:=w.enc) (aN hw) rfl ?_;refine gD ?_;refine gO F114 ?_;refine ai (fun h8=>?_) (fun h8=>?_)
  ·have aI:u≠w:=by rintro rfl;simp at h8
   refine gO F114 ?_;rw[decide_eq_false (od hu hw aI)]
  ·have e1:u=w:=by
    obtain⟨u1,u2,u3,u4,u5,u6⟩:=u;obtain⟨w1,w2,w3,w4,w5,w6⟩:=w;simp at h8;simp[h8]
   refine gO F114 ?_;refine I.back (IH (k+1) ⟨by omega,qX hk.2 hu hw e1⟩ (by omega)) ?_;exact sZ
 ·have aA:k=a.length:=by simp at h7;omega
  have vy:a=b:=qY hk.2 (by omega) (by omega);refine gO F114 ?_;simp[vy]
end Go.Proofs.YtfmdaiojokniiaaGreatDoor.P
end
section
namespace Go.Proofs.YtfmdaiojokniiaaGreatDoor.P
open Go Go.ay
set_option maxRecDepth 100000
section
variable {α:Type} [DecidableEq α] {en:α->DV}
theorem Ol(hk:∀ a b,eE (en a) (en b)=decide (a=b)){x:α}:∀ {l:List α},x∈l->bU (en x) (.bool true) (l.map fun a=>(en a,DV.bool true))=l.map fun a=>(en a,DV.bool true)
 |[],h=>by simp at h
 |y::l,h=>by
  show bU (en x) (.bool true) ((en y,DV.bool true)::l.map fun a=>(en a,DV.bool true))=_;simp only[bU,hk];by_cases e:y=x
  ·subst e;simp
  ·have hm:x∈l:=(List.mem_cons.1 h).resolve_left fun q=>e q.symm;have:=Ol hk hm;first
    |rw[if_neg (by simpa using e),this];rfl
    |rw[if_neg (by simpa using fun q=>e q.symm),this];rfl
theorem Om(hk:∀ a b,eE (en a) (en b)=decide (a=b)){x:α}:∀ {l:List α},x ∉ l->bU (en x) (.bool true) (l.map fun a=>(en a,DV.bool true))=(l++[x]).map fun a=>(en a,DV.bool true)
 |[],h=>rfl
 |y::l,h=>by
  have h1:y≠x:=fun e=>h (e ▸ List.mem_cons_self ..);have h2:x ∉ l:=fun e=>h (List.mem_cons_of_mem _ e);show bU (en x) (.bool true) ((en y,DV.bool true)::l.map fun a=>(en a,DV.bool true))=_;have:=Om hk h2;simp only[bU,hk];first
   |rw[if_neg (by simpa using h1),this];rfl
   |rw[if_neg (by simpa using fun q=>h1 q.symm),this];rfl
theorem YW(hk:∀ a b,eE (en a) (en b)=decide (a=b))(l:List α):ek en l=(eC [] l).map fun a=>(en a,DV.bool true):=by
 have main:∀ (n:Nat),ek en (l.take n)=(eC [] (l.take n)).map fun a=>(en a,DV.bool true):=by
  intro n
  induction n with
  |zero=>rfl
  |succ n ih =>
   cases h:l[n]? with
   |none =>
    have:l.length<=n:=by simpa using h
    rw[List.take_of_length_le (by omega),<- List.take_of_length_le this];exact ih
   |some x =>
    rw[G0 h,ih,cK h,MP];split
    ·rename_i hm;exact Ol hk hm
    ·rename_i hm;exact Om hk hm
 have:=main l.length
 rwa [List.take_length]at this
end
section
variable {α:Type}
def lT(xs:List α)(seen:List Nat):List α:=seen.filterMap fun j=>xs[j]?
theorem On{xs:List α}{seen:List Nat}{j:Nat}{a:α}(h:xs[j]?=some a):lT xs (seen++[j])=lT xs seen++[a]:=by
 rw[lT,List.filterMap_append];simp[lT,h]
theorem YX{xs:List α}{seen:List Nat}:(lT xs seen).length<=seen.length:=List.length_filterMap_le ..
theorem YY(xs:List α):lT xs (List.range xs.length)=xs:=by
 have main:∀ (n:Nat),n<=xs.length->lT xs (List.range n)=xs.take n:=by
  intro n
  induction n with
  |zero=>intro _;simp[lT]
  |succ n ih =>
   intro h;obtain⟨a,ha⟩:=aG (l:=xs) (k:=n) (by omega);rw[List.range_succ,On ha,ih (by omega),cK ha]
 rw[main _ (Nat.le_refl _),List.take_length]
theorem YZ{xs:List α}{seen:List Nat}(hn:seen.Nodup)(ah:∀ j∈seen,j<xs.length)(aJ:∀ j,j<xs.length->j∈seen):(lT xs seen).Perm xs:=by
 have h:seen.Perm (List.range xs.length):=(List.perm_ext_iff_of_nodup hn List.nodup_range).2 fun j=>by
  rw[List.mem_range];exact⟨ah j,aJ j⟩
 have:=h.filterMap (fun j=>xs[j]?);have e:=YY xs;unfold lT at e;rw[e]at this;exact this
theorem Oo{xs:List α}{seen:List Nat}(hn:seen.Nodup)(ah:∀ j∈seen,j<xs.length):seen.length<=xs.length:=by
 have:=KN hn (U:=List.range xs.length) fun j hj=>List.mem_range.2 (ah j hj)
 simpa using this
end
end Go.Proofs.YtfmdaiojokniiaaGreatDoor.P
end
