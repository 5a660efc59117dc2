/- Several texts of mine, one behind the other. Conditions: as each says. -/
import Derived.Test.YtfmdaiojokniiaaGreatDoorY4
import Derived.Test.YtfmdaiojokniiaaGreatDoorY6
import Derived.Test.YtfmdaiojokniiaaGreatDoorY7
set_option linter.unusedVariables false
set_option linter.unusedSimpArgs false
section
namespace Go.Proofs.YtfmdaiojokniiaaGreatDoor.P
open Go Go.ax
abbrev Text:=List UInt8
structure Datum where
 text:Text
 n:Int
 m:Int
 deriving DecidableEq
structure cP where
 name:Text
 type:Int
 cD:Int
 data:List Datum
 deriving DecidableEq
structure Key where
 n:Int
 l6:Int
 deriving DecidableEq
structure da where
 az:Text
 key:Int
 l6:Int
 cj:Int
 upto:Int
 sum:Int
 deriving DecidableEq
structure Signed where
 set:cP
 sigs:List da
 deriving DecidableEq
structure aR where
 aj:Text
 ab:List Signed
 deriving DecidableEq
structure bw where
 name:Text
 type:Int
 deriving DecidableEq
structure dP where
 kind:Int
 ab:List Signed
 cut:Text
 deriving DecidableEq
@[reducible] def Datum.enc (d : Datum) : DV := .agg [.str d.text, .int .i64 d.n, .int .i64 d.m]
@[reducible] def p0 (l : List Datum) : DV := .sl (l.map Datum.enc)
@[reducible] def cP.enc (s : cP) : DV := .agg [.str s.name, .int .i64 s.type, .int .i64 s.cD, p0 s.data]
@[reducible] def Key.enc (k : Key) : DV := .agg [.int .i64 k.n, .int .i64 k.l6]
@[reducible] def da.enc (g : da) : DV := .agg [.str g.az, .int .i64 g.key, .int .i64 g.l6, .int .i64 g.cj, .int .i64 g.upto, .int .u64 g.sum]
@[reducible] def rS (l : List da) : DV := .sl (l.map da.enc)
@[reducible] def Signed.enc (x : Signed) : DV := .agg [.str x.set.name, .int .i64 x.set.type, .int .i64 x.set.cD, p0 x.set.data, rS x.sigs]
@[reducible] def wT (l : List Signed) : DV := .sl (l.map Signed.enc)
@[reducible] def aR.enc (z : aR) : DV := .agg [.str z.aj, wT z.ab]
@[reducible] def bw.enc (q : bw) : DV := .agg [.str q.name, .int .i64 q.type]
@[reducible] def dP.enc (a : dP) : DV := .agg [.int .i64 a.kind, .sl (a.ab.map Signed.enc), .str a.cut]
def dQ (n:Int):Prop := -9223372036854775808≤n∧n≤9223372036854775807
theorem wrap64 {n:Int} (h1 : -9223372036854775808≤n) (h2:n≤9223372036854775807):IntKind.i64.wrap n=n:=by
 rw [IntWalk.i64_in n ⟨h1,h2⟩]
theorem gO {ag:FuncId} {fn:Func} (hf:E.P.funcs[ag]? = some fn) {R:cx} {lits:List Nat} {td:List aP} {s:List AV} {h:List ae} {P Q:Prop} (H:Q) (e0:P=I E ag R lits td s h:=by (conv=>lhs; whnf)) (e1:runK E ag fn.results.toList R 2000 lits td s h=Q:=by (conv=>lhs; whnf)):P:=by
 rw [e0];exact I.run af hf 2000 (e1 ▸ H)
theorem gD {ag:FuncId} {R:cx} {ops:Array Oper} {k:List aP} {lits:List Nat} {j:Nat} {eJ:List Oper} {acc:List (Nat × fI)} {aS:List (Nat × Nat)} {s:List AV} {h:List ae} {P Q:Prop} (H:Q) (e0:P=bG E ag R ops k lits j eJ acc aS s h:=by (conv=>lhs; whnf)) (e1:iQ E ag R ops k 2000 lits j eJ acc aS s h=Q:=by (conv=>lhs; whnf)):P:=by
 rw [e0];exact bG.run af 2000 (e1 ▸ H)
theorem gA {ag:FuncId} {fn:Func} (hf:E.P.funcs[ag]? = some fn) {R:cx} {lits:List Nat} {td:List aP} {s:List AV} {h:List ae} {P Q:Prop} (H:Q) (e0:P=I E ag R lits td s h:=by (conv=>lhs; whnf)) (e1:runK E ag fn.results.toList R 2000 lits td s h=Q:=by (conv=>lhs; whnf)) (_:Q→Q:=by (intro h; (fail_if_success (with_reducible refine I.of ?_)); exact h)):P:=gO hf H e0 e1
theorem gB {ag:FuncId} {R:cx} {ops:Array Oper} {k:List aP} {lits:List Nat} {j:Nat} {eJ:List Oper} {acc:List (Nat × fI)} {aS:List (Nat × Nat)} {s:List AV} {h:List ae} {P Q:Prop} (H:Q) (e0:P=bG E ag R ops k lits j eJ acc aS s h:=by (conv=>lhs; whnf)) (e1:iQ E ag R ops k 2000 lits j eJ acc aS s h=Q:=by (conv=>lhs; whnf)) (_:Q→Q:=by (intro h; (fail_if_success (with_reducible refine bG.is ?_)); exact h)):P:=gD H e0 e1
theorem eP {f : FuncId} {fn : Func} (hf : E.P.funcs[f]? = some fn) {args : List DV} {R : DV → Prop} {Q : Prop} (H : Q) (hb : fn.body = some (fn.body.getD .skip) := by rfl) (hn : (fn.name == "runtime.NumGoroutine") = false := by decide) (e : (mA .d args fun a => runK E f fn.results.toList ⟨0, tg R, [], ⟨f, none, [], [], [], []⟩⟩ 2000 [] [.code (fn.body.getD .skip)] (lQ a fn.ntmps) []) = Q := by (conv => lhs; whnf)) : aq E f args R := aq.run af hf hb hn 2000 (e ▸ H)
def rg (a:Nat):Nat→List Nat
 | 0=>[]
 |n+1=>a::rg (a+1) n
theorem sI {P Q:Prop} (q:Q) (p:P:=by first | with_reducible rfl | exact congrArg (DV.int .i64) (by omega) | exact congrArg (DV.int .i64) (wrap64 (by omega) (by omega)) | exact congrArg (DV.int .i64) ((wrap64 (by omega) (by omega)).trans (by omega))):P∧Q:=⟨p,q⟩
theorem sZ {P:Prop} (h:P:=by ((conv=>whnf);repeat (first | exact trivial | (refine sI ?_; conv=>whnf)))):P:=h
theorem cY {b:Bool} {A B:Prop} (h:A) (hb:b=true:=by first | decide | assumption):kX b A B:=aV hb h
theorem cN {b:Bool} {A B:Prop} (h:B) (hb:b=false:=by first | decide | assumption):kX b A B:=aW hb h
end Go.Proofs.YtfmdaiojokniiaaGreatDoor.P
end
section
namespace Go.Proofs.YtfmdaiojokniiaaGreatDoor.Nm
def split:List UInt8→List (List UInt8)
 | []=>[[]]
 |c::r=>if c=46 then []::split r else match split r with
  | []=>[[c]]
  |h::t=>(c::h)::t
theorem l7 (l:List UInt8):split l≠[]:=by
 cases l with
 |nil=>simp [split]
 |cons c r=>simp only [split]; split <;> (try split) <;> simp
theorem nI (c:UInt8) (r:List UInt8) (h:c≠46):∃ x t,split r=x::t∧split (c::r)=(c::x)::t:=by
 have:=l7 r
 match hr:split r,this with
 |x::t,_=>exact ⟨x,t,rfl,by simp [split,h,hr]⟩
theorem zh (a b:List UInt8):split (a++46::b)=split a++split b:=by
 induction a with
 |nil=>simp [split]
 |cons c r ih =>
  by_cases h:c=46
  ·subst h; simp [split,ih]
  ·obtain ⟨x,t,h1,h2⟩:=nI c r h;obtain ⟨y,u,h3,h4⟩:=nI c (r++46::b) h;rw [List.cons_append,h4,h2];rw [ih,h1] at h3;simp only [List.cons_append,List.cons.injEq] at h3;obtain ⟨rfl,rfl⟩:=h3;rfl
theorem zi (l:List UInt8) (h:46 ∉ l):split l=[l]:=by
 induction l with
 |nil=>rfl
 |cons c r ih =>
  simp only [List.mem_cons,not_or] at h;have hc:c≠46:=fun e=>h.1 e.symm;simp [split,hc,ih h.2]
theorem Ob (l:List UInt8):split (l++[46])=split l++[[]]:=zh l []
theorem Oc (l:List UInt8) (c:UInt8) (h:c≠46):∃ i x,split l=i++[x]∧split (l++[c])=i++[x++[c]]:=by
 induction l with
 |nil=>exact ⟨[],[],rfl,by simp [split,h]⟩
 |cons d r ih =>
  obtain ⟨i,x,h1,h2⟩:=ih;by_cases hd:d=46
  ·subst hd;exact ⟨[]::i,x,by simp [split,h1],by simp [split,h2]⟩
  ·obtain ⟨y,u,h3,h4⟩:=nI d r hd;obtain ⟨z,v,h5,h6⟩:=nI d (r++[c]) hd;rw [h1] at h3;rw [h2] at h5;rw [List.cons_append,h6,h4];cases i with
   |nil =>
    simp only [List.nil_append,List.cons.injEq] at h3 h5;obtain ⟨rfl,rfl⟩:=h3;obtain ⟨rfl,rfl⟩:=h5;exact ⟨[],d::x,rfl,rfl⟩
   |cons p q =>
    simp only [List.cons_append,List.cons.injEq] at h3 h5;obtain ⟨rfl,rfl⟩:=h3;obtain ⟨rfl,rfl⟩:=h5;exact ⟨(d::p)::q,x,rfl,rfl⟩
theorem He (l:List UInt8):∀ x∈split l,46 ∉ x:=by
 induction l with
 |nil=>simp [split]
 |cons c r ih =>
  by_cases hc:c=46
  ·subst hc; simp only [split,if_true];intro x hx;rcases List.mem_cons.1 hx with rfl | h
   ·simp
   ·exact ih x h
  ·obtain ⟨y,u,h1,h2⟩:=nI c r hc;rw [h2];intro x hx;rcases List.mem_cons.1 hx with rfl | h
   ·simp only [List.mem_cons,not_or]; exact ⟨fun e=>hc e.symm,ih y (by rw [h1]; simp)⟩
   ·exact ih x (by rw [h1]; simp [h])
def glue:List (List UInt8)→List UInt8
 | []=>[]
 | [x]=>x
 |x::y::t=>x++46::glue (y::t)
theorem rT (l:List UInt8):glue (split l)=l:=by
 induction l with
 |nil=>rfl
 |cons c r ih =>
  by_cases hc:c=46
  ·subst hc;simp only [split,if_true];have:=l7 r
   match hr:split r,this with
   |x::t,_=>rw [hr] at ih; simp [glue,ih]
  ·obtain ⟨y,u,h1,h2⟩:=nI c r hc;rw [h2];rw [h1] at ih;cases u with
   |nil=>simp only [glue] at ih ⊢; rw [ih]
   |cons z v=>simp only [glue,List.cons_append] at ih ⊢; rw [ih]
theorem Hf (ls:List (List UInt8)) (aJ:ls≠[]) (h:∀ x∈ls,46 ∉ x):split (glue ls)=ls:=by
 induction ls with
 |nil=>exact absurd rfl aJ
 |cons x t ih =>
  cases t with
  |nil=>exact zi x (h x (by simp))
  |cons y u =>
   simp only [glue];rw [zh,zi x (h x (by simp)),ih (by simp) (fun z hz=>h z (by simp [hz]))];rfl
theorem Hg (a b:List UInt8) (h:split a=split b):a=b:=by rw [← rT a,← rT b,h]
def CG (c:UInt8):Bool:=(decide (97≤c.toNat)&&decide (c.toNat≤122))||(decide (48≤c.toNat)&&decide (c.toNat≤57))
def nJ (l:List UInt8) (i:Nat):Bool:=match l[i]? with
 |some c=>CG c||(c==45&&decide (0<i)&&decide (i+1<l.length))
 |none=>true
def label (l:List UInt8):Bool:=decide (1≤l.length∧l.length≤12∧∀ i,i<l.length→nJ l i=true)
def parts (ls:List (List UInt8)):Bool:=decide (ls.length≤8)&&(match ls with
 | []=>true
 |x::t=>(label x||x==[42])&&t.all label)
def valid (l:List UInt8):Bool:=decide (l=[46])||(decide (l.length≤60)&&parts (split l))
def labels (l:List UInt8):List (List UInt8):=if l=[46] then [] else split l
def under (s z:List UInt8):Bool:=decide (labels z <:+ labels s)
def fX (l:List UInt8):Bool:=match l with
 |c::_=>c==42
 | []=>false
end Go.Proofs.YtfmdaiojokniiaaGreatDoor.Nm
end
section
namespace Go.Proofs.YtfmdaiojokniiaaGreatDoor.P
open Go Go.ax
theorem jQ {α:Type} {f:α→DV} {l:List α} {k:Nat} {x:α} (hx:l[k]? = some x):(l.map f)[((k:Nat):Int).toNat]? = some (f x):=by
 simp [hx]
theorem aD {α:Type} {l:List α} {k:Nat} (h:k<l.length):∃ x,l[k]? = some x:=⟨l[k],by simp [h]⟩
theorem cQ {α:Type} {l:List α} {k:Nat} {x:α} (h:l[k]? = some x):l.take (k+1)=l.take k++[x]:=by
 rw [List.take_add_one,h]; rfl
def oO (l:List DV) (n:Int) (e:DV):Prop:=0≤n∧l[n.toNat]? = some e
theorem aB {l:List DV} {sz:Nat} {n:Int} {K:DV→Prop} {e:DV} (h:oO l n e) (hs:e.cells.length=sz) (k:K e):pF l sz n K:=eu e h.1 h.2 hs k
theorem aN {α:Type} {f:α→DV} {l:List α} {k:Nat} {x:α} (h:l[k]? = some x):oO (l.map f) (k:Int) (f x):=⟨by omega,jQ h⟩
theorem wY {α:Type} {f:α→DV} {l:List α} {x:α} (h:l[0]? = some x):oO (l.map f) 0 (f x):=⟨by omega,by simp [h]⟩
theorem l9 {α:Type} {f:α→DV} {l:List α} {k:Nat} {x:α} (h:l[k - 1]? = some x) (h0:0<k) (hb:k≤4294967296):oO (l.map f) (IntKind.i64.wrap ((k:Int) - 1)) (f x):=by
 have:IntKind.i64.wrap ((k:Int) - 1)=((k - 1:Nat):Int):=by rw [wrap64 (by omega) (by omega)]; omega
 rw [this];exact aN h
theorem at_next {α:Type} {f:α→DV} {l:List α} {k:Nat} {x:α} (h:l[k+1]? = some x) (hb:k≤4294967296):oO (l.map f) (IntKind.i64.wrap ((k:Int)+1)) (f x):=by
 have:IntKind.i64.wrap ((k:Int)+1)=((k+1:Nat):Int):=by rw [wrap64 (by omega) (by omega)]; omega
 rw [this];exact aN h
theorem eB {l:Text} (h:Nm.valid l=true):l.length≤60:=by
 simp only [Nm.valid,Bool.or_eq_true,decide_eq_true_eq,Bool.and_eq_true] at h;rcases h with rfl | h
 ·simp
 ·exact h.1
theorem Oo {a b:Prop} (k:b) (h:a:=by first | with_reducible rfl | exact congrArg (DV.int .i64) (by omega) | exact congrArg (DV.int .i64) (wrap64 (by omega) (by omega)) | exact congrArg (DV.int .i64) ((wrap64 (by omega) (by omega)).trans (by omega))):a∧b:=⟨h,k⟩
theorem CS {P:Prop} (h:P:=by (conv=>whnf); repeat (first | exact trivial | (refine Oo ?_; conv=>whnf))):P:=h
theorem Ht {α:Type} [DecidableEq α]:∀ {l U:List α},l.Nodup→(∀ x∈l,x∈U)→l.length≤U.length
 | [],_,_,_=>by simp
 |x::l,U,h,hs=>by
  rw [List.nodup_cons] at h;have h1:=Ht (U:=U.erase x) h.2 fun y hy=>by
   have:y≠x:=fun e=>h.1 (e ▸ hy);exact (List.mem_erase_of_ne this).2 (hs y (List.mem_cons_of_mem _ hy))
  have h2:=List.length_erase_of_mem (hs x (List.mem_cons_self ..));have h3:=List.length_pos_of_mem (hs x (List.mem_cons_self ..));simp;omega
end Go.Proofs.YtfmdaiojokniiaaGreatDoor.P
end
section
namespace Go.Proofs.YtfmdaiojokniiaaGreatDoor.P
open Go Go.ax Go.Sort Go.RowKit
structure Span where
 cj:Int
 upto:Int
 deriving DecidableEq
@[reducible] def Span.enc (x : Span) : DV := .agg [.int .i64 x.cj, .int .i64 x.upto]
set_option maxHeartbeats 1000000 in
theorem RI (x y:Int × Int) (W:World):Calls Tryz.prog 100 #[.agg #[.int .i64 x.1,.int .i64 x.2],.agg #[.int .i64 y.1,.int .i64 y.2]] W fun e w'=>e = .returned (.int .i64 (Lib.compareInt x.1 y.1))∧∃ q RJ,w'=grow (W.drewN q) RJ:=by
 have xv:=fun W'=>AnyG.cmp_Compare_int Tryz.RE x.1 y.1 W';change ∀ W',Calls Tryz.prog 101 _ _ _ at xv;generalize Lib.compareInt x.1 y.1=r at xv ⊢
 go_enter Tryz.func100,Tryz.ntmps100
 go_wp2_with (go_at_call 101; refine (xv _).mono ?_; rintro e w' ⟨rfl,rfl⟩)
 go_ret
 exact ⟨rfl,0,_,by rw [alloc_eq_grow,alloc_eq_grow,grow_grow]; rfl⟩
theorem RL:JF Tryz.prog 99 100 (·.1):=fun blk cap d w hH hblk bY=>by
 have eg:∀ args w,(callFunc 100 args).run Tryz.prog w = .ok (.enter 100 args) w:=enters_of Tryz.func100 (by kernel_rfl) rfl;have xv:=AnyQ.slices_SortFunc Tryz.RG 2 Tryz.isAgg169 Tryz.sizeOf169 kF (fun _=>rfl) (fun x v hv=>by simp [kF] at hv; rcases hv with rfl | rfl <;> rfl) (fun x y=>Lib.compareInt x.1 y.1) (Ry (·.1)) 100 #[] blk 0 cap d w eg (fun _ _ _ _ x y=>RI x y _) hH hblk bY;exact xv
theorem RM (l:List Span) (hl:l≠[]) (hlen:l.length<4611686018427387904) :
  aw E 99 [.arr 0 (169,2) (l.map Span.enc)] [.own 0 0,.fn (.func 100) [] []] (fun a b=>a = .aF []∧∃ l':List Span,l'.Perm l∧l'.Pairwise (fun x y=>x.cj≤y.cj)∧b=[.arr 0 (169,2) (l'.map Span.enc)]):=by
 have h:=RA (E:=E) (t:=169) RL ⟨_,Tryz.func99,rfl,by decide⟩ (l.map fun k=>(k.cj,k.upto)) (by simpa using hl) (by simpa using hlen);have e1:∀ m:List Span,(m.map fun k=>(k.cj,k.upto)).map ja=m.map Span.enc:=fun m=>by rw [List.map_map]; rfl
 rw [e1] at h;refine h.mono fun a b ⟨ha,l',hp,hs,hb⟩=>⟨ha,l'.map fun p=>⟨p.1,p.2⟩,?_,?_,?_⟩
 ·have:=hp.map fun p:Int × Int=>(⟨p.1,p.2⟩:Span);rw [List.map_map] at this;have e2:((fun p:Int × Int=>(⟨p.1,p.2⟩:Span)) ∘ fun k:Span=>(k.cj,k.upto))=id:=rfl;rw [e2,List.map_id] at this;exact this
 ·exact List.pairwise_map.2 hs
 ·rw [hb,List.map_map];rfl
end Go.Proofs.YtfmdaiojokniiaaGreatDoor.P
end
section
namespace Go.ax
open Go Go.RowKit
theorem aw.lz {E:Env} {f:FuncId} {H H2:List ae} {args:List AV} {r0:AV} (hc:aw E f H args (fun a b=>a=r0∧jq H.length [] 0 b=H2)) (hk:(CE H.length [] H2&&fW H.length [] r0)=true):aw E f H args (fun a b=>a=r0∧b=H2):=by
 simp only [Bool.and_eq_true] at hk;obtain ⟨cH,hv⟩:=hk;unfold aw at hc ⊢;refine ⟨hc.1,hc.2.1,fun c vs h1 h2 h3=>(hc.2.2 c vs h1 h2 h3).mono fun e w' ⟨c',r,v,k1,k2,⟨k3,wX⟩,k4,k5,k6⟩=>?_⟩;subst k3;have a1:=k5.fa (n:=H.length) (B:=[]) (by rw [wX]; exact cH);have a2:=zf (n:=H.length) (B:=[]) hv k4;obtain ⟨b1,b2⟩:=a1.Hd (ay:=c'.ay) (fun b hb => .inl hb);refine ⟨⟨(c'.fa H.length []).own,(c'.fa H.length []).heap,c'.ay,c'.w⟩,r,v,k1,k2,⟨rfl,by show jq _ _ 0 c'.heap=H2; rw [wX]⟩,b2 _ _ a2,b1,?_⟩;have hid:∀ i,i<H.length→c9 H.length [] i=false:=fun i hi=>by
  have:Nat.ble H.length i=false:=by
   cases q:Nat.ble H.length i
   ·rfl
   ·have:=Nat.le_of_ble_eq_true q; omega
  simp only [c9,this]; rfl
 exact {
  ay:=k6.ay
  os:=k6.os
  tape:=k6.tape
  output:=k6.output
  size:=k6.size
  keep:=k6.keep
  db:=fun i b n hi hb=>k6.db i b n (rR hi).2 hb
  boxes:=fun i bx hi=>by
   have ai:i<H.length:=by rw [← h1]; exact aT hi
   have e1:(jq H.length [] 0 c'.heap)[i]? = c'.heap[i]? := uc 0 i c'.heap (by rw [Nat.zero_add]; exact hid i ai)
   exact ud (c:=c') (fun x hx=>e1.trans hx) (fun x _=>wS (hid i ai)) (k6.boxes i bx hi) }
end Go.ax
end
