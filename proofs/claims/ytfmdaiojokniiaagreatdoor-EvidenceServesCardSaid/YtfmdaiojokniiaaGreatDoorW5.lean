/- Several texts of mine, one behind the other. Conditions: as each says. -/
import Derived.Test.YtfmdaiojokniiaaGreatDoorW4
set_option linter.unusedVariables false
set_option linter.unusedSimpArgs false
section
namespace Go.Proofs.YtfmdaiojokniiaaGreatDoor.P
open Go Go.aw
abbrev Text:=List UInt8
structure Datum where
 text:Text
 n:Int
 m:Int
 deriving DecidableEq
structure dc where
 name:Text
 type:Int
 cV:Int
 data:List Datum
 deriving DecidableEq
structure Key where
 n:Int
 lG:Int
 deriving DecidableEq
structure di where
 ay:Text
 key:Int
 lG:Int
 bQ:Int
 upto:Int
 sum:Int
 deriving DecidableEq
structure Signed where
 set:dc
 sigs:List di
 deriving DecidableEq
structure aF where
 ai:Text
 ae:List Signed
 deriving DecidableEq
structure br where
 name:Text
 type:Int
 deriving DecidableEq
structure dj where
 kind:Int
 ae:List Signed
 cut:Text
 deriving DecidableEq
@[reducible] def Datum.enc (d : Datum) : DV := .agg [.str d.text, .int .i64 d.n, .int .i64 d.m]
@[reducible] def tH (l : List Datum) : DV := .sl (l.map Datum.enc)
@[reducible] def dc.enc (s : dc) : DV := .agg [.str s.name, .int .i64 s.type, .int .i64 s.cV, tH s.data]
@[reducible] def Key.enc (k : Key) : DV := .agg [.int .i64 k.n, .int .i64 k.lG]
@[reducible] def di.enc (g : di) : DV := .agg [.str g.ay, .int .i64 g.key, .int .i64 g.lG, .int .i64 g.bQ, .int .i64 g.upto, .int .u64 g.sum]
@[reducible] def yJ (l : List di) : DV := .sl (l.map di.enc)
@[reducible] def Signed.enc (x : Signed) : DV := .agg [.str x.set.name, .int .i64 x.set.type, .int .i64 x.set.cV, tH x.set.data, yJ x.sigs]
@[reducible] def wj (l : List Signed) : DV := .sl (l.map Signed.enc)
@[reducible] def aF.enc (z : aF) : DV := .agg [.str z.ai, wj z.ae]
@[reducible] def br.enc (q : br) : DV := .agg [.str q.name, .int .i64 q.type]
@[reducible] def dj.enc (a : dj) : DV := .agg [.int .i64 a.kind, .sl (a.ae.map Signed.enc), .str a.cut]
def dU (n:Int):Prop := -9223372036854775808≤n∧n≤9223372036854775807
theorem wrap64 {n:Int} (h1 : -9223372036854775808≤n) (h2:n≤9223372036854775807):IntKind.i64.wrap n=n:=by
 rw [IntWalk.i64_in n ⟨h1,h2⟩]
theorem gO {af:FuncId} {fn:Func} (hf:E.P.funcs[af]? = some fn) {R:cu} {lits:List Nat} {td:List aH} {s:List AV} {h:List ab} {P Q:Prop} (H:Q) (e0:P=I E af R lits td s h:=by (conv=>lhs; whnf)) (e1:runK E af fn.results.toList R 2000 lits td s h=Q:=by (conv=>lhs; whnf)):P:=by
 rw [e0];exact I.run ag hf 2000 (e1 ▸ H)
theorem gD {af:FuncId} {R:cu} {ops:Array Oper} {k:List aH} {lits:List Nat} {j:Nat} {eE:List Oper} {acc:List (Nat × fC)} {aL:List (Nat × Nat)} {s:List AV} {h:List ab} {P Q:Prop} (H:Q) (e0:P=bF E af R ops k lits j eE acc aL s h:=by (conv=>lhs; whnf)) (e1:iA E af R ops k 2000 lits j eE acc aL s h=Q:=by (conv=>lhs; whnf)):P:=by
 rw [e0];exact bF.run ag 2000 (e1 ▸ H)
theorem gA {af:FuncId} {fn:Func} (hf:E.P.funcs[af]? = some fn) {R:cu} {lits:List Nat} {td:List aH} {s:List AV} {h:List ab} {P Q:Prop} (H:Q) (e0:P=I E af R lits td s h:=by (conv=>lhs; whnf)) (e1:runK E af fn.results.toList R 2000 lits td s h=Q:=by (conv=>lhs; whnf)) (_:Q→Q:=by (intro h; (fail_if_success (with_reducible refine I.of ?_)); exact h)):P:=gO hf H e0 e1
theorem gB {af:FuncId} {R:cu} {ops:Array Oper} {k:List aH} {lits:List Nat} {j:Nat} {eE:List Oper} {acc:List (Nat × fC)} {aL:List (Nat × Nat)} {s:List AV} {h:List ab} {P Q:Prop} (H:Q) (e0:P=bF E af R ops k lits j eE acc aL s h:=by (conv=>lhs; whnf)) (e1:iA E af R ops k 2000 lits j eE acc aL s h=Q:=by (conv=>lhs; whnf)) (_:Q→Q:=by (intro h; (fail_if_success (with_reducible refine bF.is ?_)); exact h)):P:=gD H e0 e1
theorem eP {f : FuncId} {fn : Func} (hf : E.P.funcs[f]? = some fn) {args : List DV} {R : DV → Prop} {Q : Prop} (H : Q) (hb : fn.body = some (fn.body.getD .skip) := by rfl) (hn : (fn.name == "runtime.NumGoroutine") = false := by decide) (e : (lZ .d args fun a => runK E f fn.results.toList ⟨0, sM R, [], ⟨f, none, [], [], [], []⟩⟩ 2000 [] [.code (fn.body.getD .skip)] (lu a fn.ntmps) []) = Q := by (conv => lhs; whnf)) : au E f args R := au.run ag hf hb hn 2000 (e ▸ H)
def rg (a:Nat):Nat→List Nat
 | 0=>[]
 |n+1=>a::rg (a+1) n
theorem sI {P Q:Prop} (q:Q) (p:P:=by first | with_reducible rfl | exact congrArg (DV.int .i64) (by omega) | exact congrArg (DV.int .i64) (wrap64 (by omega) (by omega)) | exact congrArg (DV.int .i64) ((wrap64 (by omega) (by omega)).trans (by omega))):P∧Q:=⟨p,q⟩
theorem sZ {P:Prop} (h:P:=by ((conv=>whnf);repeat (first | exact trivial | (refine sI ?_; conv=>whnf)))):P:=h
theorem cY {b:Bool} {A B:Prop} (h:A) (hb:b=true:=by first | decide | assumption):kH b A B:=bg hb h
theorem cN {b:Bool} {A B:Prop} (h:B) (hb:b=false:=by first | decide | assumption):kH b A B:=aW hb h
end Go.Proofs.YtfmdaiojokniiaaGreatDoor.P
end
section
namespace Go.Proofs.YtfmdaiojokniiaaGreatDoor.Nm
def split:List UInt8→List (List UInt8)
 | []=>[[]]
 |c::r=>if c=46 then []::split r else match split r with
  | []=>[[c]]
  |h::t=>(c::h)::t
theorem lH (l:List UInt8):split l≠[]:=by
 cases l with
 |nil=>simp [split]
 |cons c r=>simp only [split]; split <;> (try split) <;> simp
theorem nk (c:UInt8) (r:List UInt8) (h:c≠46):∃ x t,split r=x::t∧split (c::r)=(c::x)::t:=by
 have:=lH r
 match hr:split r,this with
 |x::t,_=>exact ⟨x,t,rfl,by simp [split,h,hr]⟩
theorem yK (a b:List UInt8):split (a++46::b)=split a++split b:=by
 induction a with
 |nil=>simp [split]
 |cons c r ih =>
  by_cases h:c=46
  ·subst h; simp [split,ih]
  ·obtain ⟨x,t,h1,h2⟩:=nk c r h;obtain ⟨y,u,h3,h4⟩:=nk c (r++46::b) h;rw [List.cons_append,h4,h2];rw [ih,h1] at h3;simp only [List.cons_append,List.cons.injEq] at h3;obtain ⟨rfl,rfl⟩:=h3;rfl
theorem yL (l:List UInt8) (h:46 ∉ l):split l=[l]:=by
 induction l with
 |nil=>rfl
 |cons c r ih =>
  simp only [List.mem_cons,not_or] at h;have hc:c≠46:=fun e=>h.1 e.symm;simp [split,hc,ih h.2]
theorem NL (l:List UInt8):split (l++[46])=split l++[[]]:=yK l []
theorem NM (l:List UInt8) (c:UInt8) (h:c≠46):∃ i x,split l=i++[x]∧split (l++[c])=i++[x++[c]]:=by
 induction l with
 |nil=>exact ⟨[],[],rfl,by simp [split,h]⟩
 |cons d r ih =>
  obtain ⟨i,x,h1,h2⟩:=ih;by_cases hd:d=46
  ·subst hd;exact ⟨[]::i,x,by simp [split,h1],by simp [split,h2]⟩
  ·obtain ⟨y,u,h3,h4⟩:=nk d r hd;obtain ⟨z,v,h5,h6⟩:=nk d (r++[c]) hd;rw [h1] at h3;rw [h2] at h5;rw [List.cons_append,h6,h4];cases i with
   |nil =>
    simp only [List.nil_append,List.cons.injEq] at h3 h5;obtain ⟨rfl,rfl⟩:=h3;obtain ⟨rfl,rfl⟩:=h5;exact ⟨[],d::x,rfl,rfl⟩
   |cons p q =>
    simp only [List.cons_append,List.cons.injEq] at h3 h5;obtain ⟨rfl,rfl⟩:=h3;obtain ⟨rfl,rfl⟩:=h5;exact ⟨(d::p)::q,x,rfl,rfl⟩
theorem GM (l:List UInt8):∀ x∈split l,46 ∉ x:=by
 induction l with
 |nil=>simp [split]
 |cons c r ih =>
  by_cases hc:c=46
  ·subst hc; simp only [split,if_true];intro x hx;rcases List.mem_cons.1 hx with rfl | h
   ·simp
   ·exact ih x h
  ·obtain ⟨y,u,h1,h2⟩:=nk c r hc;rw [h2];intro x hx;rcases List.mem_cons.1 hx with rfl | h
   ·simp only [List.mem_cons,not_or]; exact ⟨fun e=>hc e.symm,ih y (by rw [h1]; simp)⟩
   ·exact ih x (by rw [h1]; simp [h])
def glue:List (List UInt8)→List UInt8
 | []=>[]
 | [x]=>x
 |x::y::t=>x++46::glue (y::t)
theorem rz (l:List UInt8):glue (split l)=l:=by
 induction l with
 |nil=>rfl
 |cons c r ih =>
  by_cases hc:c=46
  ·subst hc;simp only [split,if_true];have:=lH r
   match hr:split r,this with
   |x::t,_=>rw [hr] at ih; simp [glue,ih]
  ·obtain ⟨y,u,h1,h2⟩:=nk c r hc;rw [h2];rw [h1] at ih;cases u with
   |nil=>simp only [glue] at ih ⊢; rw [ih]
   |cons z v=>simp only [glue,List.cons_append] at ih ⊢; rw [ih]
theorem GN (ls:List (List UInt8)) (aE:ls≠[]) (h:∀ x∈ls,46 ∉ x):split (glue ls)=ls:=by
 induction ls with
 |nil=>exact absurd rfl aE
 |cons x t ih =>
  cases t with
  |nil=>exact yL x (h x (by simp))
  |cons y u =>
   simp only [glue];rw [yK,yL x (h x (by simp)),ih (by simp) (fun z hz=>h z (by simp [hz]))];rfl
theorem GO (a b:List UInt8) (h:split a=split b):a=b:=by rw [← rz a,← rz b,h]
def Cd (c:UInt8):Bool:=(decide (97≤c.toNat)&&decide (c.toNat≤122))||(decide (48≤c.toNat)&&decide (c.toNat≤57))
def pN (l:List UInt8) (i:Nat):Bool:=match l[i]? with
 |some c=>Cd c||(c==45&&decide (0<i)&&decide (i+1<l.length))
 |none=>true
def label (l:List UInt8):Bool:=decide (1≤l.length∧l.length≤12∧∀ i,i<l.length→pN l i=true)
def parts (ls:List (List UInt8)):Bool:=decide (ls.length≤8)&&(match ls with
 | []=>true
 |x::t=>(label x||x==[42])&&t.all label)
def valid (l:List UInt8):Bool:=decide (l=[46])||(decide (l.length≤60)&&parts (split l))
def labels (l:List UInt8):List (List UInt8):=if l=[46] then [] else split l
def under (s z:List UInt8):Bool:=decide (labels z <:+ labels s)
def iW (l:List UInt8):Bool:=match l with
 |c::_=>c==42
 | []=>false
end Go.Proofs.YtfmdaiojokniiaaGreatDoor.Nm
end
