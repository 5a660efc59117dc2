/- Several texts of mine, one behind the other. Conditions: as each says. -/
import Derived.Test.YtfmdaiojokniiaaGreatDoorV4
import Derived.Shelf.SlSortCmp.WholeK
import Derived.Shelf.SlicesG.Cmp
import Derived.Shelf.SortM.Plain
import Derived.Shelf.Slices.CompactI
import Derived.Ground.SlgmProg
import Derived.Ground.Names2Prog
import Derived.Ground.SlsfProg
import Derived.Ground.SlgcProg
import Derived.Test.YtfmdaiojokniiaaGreatDoorProg
set_option linter.unusedVariables false
set_option linter.unusedSimpArgs false
section
namespace Go.Proofs.YtfmdaiojokniiaaGreatDoor.P
open Go Go.aw
abbrev Text:=List UInt8
structure Datum where
 text:Text
 n:Int
 m:Int
 deriving DecidableEq
structure cS where
 name:Text
 type:Int
 cD:Int
 data:List Datum
 deriving DecidableEq
structure Key where
 n:Int
 mz:Int
 deriving DecidableEq
structure cX where
 az:Text
 key:Int
 mz:Int
 bM:Int
 upto:Int
 sum:Int
 deriving DecidableEq
structure Signed where
 set:cS
 sigs:List cX
 deriving DecidableEq
structure aG where
 ah:Text
 ab:List Signed
 deriving DecidableEq
structure bj where
 name:Text
 type:Int
 deriving DecidableEq
structure dC where
 kind:Int
 ab:List Signed
 cut:Text
 deriving DecidableEq
@[reducible] def Datum.enc (d : Datum) : DV := .agg [.str d.text, .int .i64 d.n, .int .i64 d.m]
@[reducible] def sx (l : List Datum) : DV := .sl (l.map Datum.enc)
@[reducible] def cS.enc (s : cS) : DV := .agg [.str s.name, .int .i64 s.type, .int .i64 s.cD, sx s.data]
@[reducible] def Key.enc (k : Key) : DV := .agg [.int .i64 k.n, .int .i64 k.mz]
@[reducible] def cX.enc (g : cX) : DV := .agg [.str g.az, .int .i64 g.key, .int .i64 g.mz, .int .i64 g.bM, .int .i64 g.upto, .int .u64 g.sum]
@[reducible] def uE (l : List cX) : DV := .sl (l.map cX.enc)
@[reducible] def Signed.enc (x : Signed) : DV := .agg [.str x.set.name, .int .i64 x.set.type, .int .i64 x.set.cD, sx x.set.data, uE x.sigs]
@[reducible] def xl (l : List Signed) : DV := .sl (l.map Signed.enc)
@[reducible] def aG.enc (z : aG) : DV := .agg [.str z.ah, xl z.ab]
@[reducible] def bj.enc (q : bj) : DV := .agg [.str q.name, .int .i64 q.type]
@[reducible] def dC.enc (a : dC) : DV := .agg [.int .i64 a.kind, .sl (a.ab.map Signed.enc), .str a.cut]
def dD (n:Int):Prop := -9223372036854775808≤n∧n≤9223372036854775807
theorem wrap64 {n:Int} (h1 : -9223372036854775808≤n) (h2:n≤9223372036854775807):IntKind.i64.wrap n=n:=by
 rw [IntWalk.i64_in n ⟨h1,h2⟩]
theorem gO {ag:FuncId} {fn:Func} (hf:E.P.funcs[ag]? = some fn) {R:cw} {lits:List Nat} {td:List aN} {s:List AV} {h:List ae} {P Q:Prop} (H:Q) (e0:P=I E ag R lits td s h:=by (conv=>lhs; whnf)) (e1:runK E ag fn.results.toList R 2000 lits td s h=Q:=by (conv=>lhs; whnf)):P:=by
 rw [e0];exact I.run af hf 2000 (e1 ▸ H)
theorem gD {ag:FuncId} {R:cw} {ops:Array Oper} {k:List aN} {lits:List Nat} {j:Nat} {eQ:List Oper} {acc:List (Nat × fQ)} {aT:List (Nat × Nat)} {s:List AV} {h:List ae} {P Q:Prop} (H:Q) (e0:P=bG E ag R ops k lits j eQ acc aT s h:=by (conv=>lhs; whnf)) (e1:iZ E ag R ops k 2000 lits j eQ acc aT s h=Q:=by (conv=>lhs; whnf)):P:=by
 rw [e0];exact bG.run af 2000 (e1 ▸ H)
theorem gA {ag:FuncId} {fn:Func} (hf:E.P.funcs[ag]? = some fn) {R:cw} {lits:List Nat} {td:List aN} {s:List AV} {h:List ae} {P Q:Prop} (H:Q) (e0:P=I E ag R lits td s h:=by (conv=>lhs; whnf)) (e1:runK E ag fn.results.toList R 2000 lits td s h=Q:=by (conv=>lhs; whnf)) (_:Q→Q:=by (intro h; (fail_if_success (with_reducible refine I.of ?_)); exact h)):P:=gO hf H e0 e1
theorem gB {ag:FuncId} {R:cw} {ops:Array Oper} {k:List aN} {lits:List Nat} {j:Nat} {eQ:List Oper} {acc:List (Nat × fQ)} {aT:List (Nat × Nat)} {s:List AV} {h:List ae} {P Q:Prop} (H:Q) (e0:P=bG E ag R ops k lits j eQ acc aT s h:=by (conv=>lhs; whnf)) (e1:iZ E ag R ops k 2000 lits j eQ acc aT s h=Q:=by (conv=>lhs; whnf)) (_:Q→Q:=by (intro h; (fail_if_success (with_reducible refine bG.is ?_)); exact h)):P:=gD H e0 e1
theorem eP {f : FuncId} {fn : Func} (hf : E.P.funcs[f]? = some fn) {args : List DV} {R : DV → Prop} {Q : Prop} (H : Q) (hb : fn.body = some (fn.body.getD .skip) := by rfl) (hn : (fn.name == "runtime.NumGoroutine") = false := by decide) (e : (mU .d args fun a => runK E f fn.results.toList ⟨0, tL R, [], ⟨f, none, [], [], [], []⟩⟩ 2000 [] [.code (fn.body.getD .skip)] (mi a fn.ntmps) []) = Q := by (conv => lhs; whnf)) : aq E f args R := aq.run af hf hb hn 2000 (e ▸ H)
def rg (a:Nat):Nat→List Nat
 | 0=>[]
 |n+1=>a::rg (a+1) n
theorem sI {P Q:Prop} (q:Q) (p:P:=by first | with_reducible rfl | exact congrArg (DV.int .i64) (by omega) | exact congrArg (DV.int .i64) (wrap64 (by omega) (by omega)) | exact congrArg (DV.int .i64) ((wrap64 (by omega) (by omega)).trans (by omega))):P∧Q:=⟨p,q⟩
theorem sZ {P:Prop} (h:P:=by ((conv=>whnf);repeat (first | exact trivial | (refine sI ?_; conv=>whnf)))):P:=h
theorem cY {b:Bool} {A B:Prop} (h:A) (hb:b=true:=by first | decide | assumption):lA b A B:=bh hb h
theorem cN {b:Bool} {A B:Prop} (h:B) (hb:b=false:=by first | decide | assumption):lA b A B:=aZ hb h
end Go.Proofs.YtfmdaiojokniiaaGreatDoor.P
end
section
namespace Go.Proofs.YtfmdaiojokniiaaGreatDoor.Nm
def split:List UInt8→List (List UInt8)
 | []=>[[]]
 |c::r=>if c=46 then []::split r else match split r with
  | []=>[[c]]
  |h::t=>(c::h)::t
theorem mA (l:List UInt8):split l≠[]:=by
 cases l with
 |nil=>simp [split]
 |cons c r=>simp only [split]; split <;> (try split) <;> simp
theorem om (c:UInt8) (r:List UInt8) (h:c≠46):∃ x t,split r=x::t∧split (c::r)=(c::x)::t:=by
 have:=mA r
 match hr:split r,this with
 |x::t,_=>exact ⟨x,t,rfl,by simp [split,h,hr]⟩
theorem zM (a b:List UInt8):split (a++46::b)=split a++split b:=by
 induction a with
 |nil=>simp [split]
 |cons c r ih =>
  by_cases h:c=46
  ·subst h; simp [split,ih]
  ·obtain ⟨x,t,h1,h2⟩:=om c r h;obtain ⟨y,u,h3,h4⟩:=om c (r++46::b) h;rw [List.cons_append,h4,h2];rw [ih,h1] at h3;simp only [List.cons_append,List.cons.injEq] at h3;obtain ⟨rfl,rfl⟩:=h3;rfl
theorem zN (l:List UInt8) (h:46 ∉ l):split l=[l]:=by
 induction l with
 |nil=>rfl
 |cons c r ih =>
  simp only [List.mem_cons,not_or] at h;have hc:c≠46:=fun e=>h.1 e.symm;simp [split,hc,ih h.2]
theorem O5 (l:List UInt8):split (l++[46])=split l++[[]]:=zM l []
theorem O6 (l:List UInt8) (c:UInt8) (h:c≠46):∃ i x,split l=i++[x]∧split (l++[c])=i++[x++[c]]:=by
 induction l with
 |nil=>exact ⟨[],[],rfl,by simp [split,h]⟩
 |cons d r ih =>
  obtain ⟨i,x,h1,h2⟩:=ih;by_cases hd:d=46
  ·subst hd;exact ⟨[]::i,x,by simp [split,h1],by simp [split,h2]⟩
  ·obtain ⟨y,u,h3,h4⟩:=om d r hd;obtain ⟨z,v,h5,h6⟩:=om d (r++[c]) hd;rw [h1] at h3;rw [h2] at h5;rw [List.cons_append,h6,h4];cases i with
   |nil =>
    simp only [List.nil_append,List.cons.injEq] at h3 h5;obtain ⟨rfl,rfl⟩:=h3;obtain ⟨rfl,rfl⟩:=h5;exact ⟨[],d::x,rfl,rfl⟩
   |cons p q =>
    simp only [List.cons_append,List.cons.injEq] at h3 h5;obtain ⟨rfl,rfl⟩:=h3;obtain ⟨rfl,rfl⟩:=h5;exact ⟨(d::p)::q,x,rfl,rfl⟩
theorem HN (l:List UInt8):∀ x∈split l,46 ∉ x:=by
 induction l with
 |nil=>simp [split]
 |cons c r ih =>
  by_cases hc:c=46
  ·subst hc; simp only [split,if_true];intro x hx;rcases List.mem_cons.1 hx with rfl | h
   ·simp
   ·exact ih x h
  ·obtain ⟨y,u,h1,h2⟩:=om c r hc;rw [h2];intro x hx;rcases List.mem_cons.1 hx with rfl | h
   ·simp only [List.mem_cons,not_or]; exact ⟨fun e=>hc e.symm,ih y (by rw [h1]; simp)⟩
   ·exact ih x (by rw [h1]; simp [h])
def glue:List (List UInt8)→List UInt8
 | []=>[]
 | [x]=>x
 |x::y::t=>x++46::glue (y::t)
theorem sy (l:List UInt8):glue (split l)=l:=by
 induction l with
 |nil=>rfl
 |cons c r ih =>
  by_cases hc:c=46
  ·subst hc;simp only [split,if_true];have:=mA r
   match hr:split r,this with
   |x::t,_=>rw [hr] at ih; simp [glue,ih]
  ·obtain ⟨y,u,h1,h2⟩:=om c r hc;rw [h2];rw [h1] at ih;cases u with
   |nil=>simp only [glue] at ih ⊢; rw [ih]
   |cons z v=>simp only [glue,List.cons_append] at ih ⊢; rw [ih]
theorem HO (ls:List (List UInt8)) (aJ:ls≠[]) (h:∀ x∈ls,46 ∉ x):split (glue ls)=ls:=by
 induction ls with
 |nil=>exact absurd rfl aJ
 |cons x t ih =>
  cases t with
  |nil=>exact zN x (h x (by simp))
  |cons y u =>
   simp only [glue];rw [zM,zN x (h x (by simp)),ih (by simp) (fun z hz=>h z (by simp [hz]))];rfl
theorem HP (a b:List UInt8) (h:split a=split b):a=b:=by rw [← sy a,← sy b,h]
def C7 (c:UInt8):Bool:=(decide (97≤c.toNat)&&decide (c.toNat≤122))||(decide (48≤c.toNat)&&decide (c.toNat≤57))
def oo (l:List UInt8) (i:Nat):Bool:=match l[i]? with
 |some c=>C7 c||(c==45&&decide (0<i)&&decide (i+1<l.length))
 |none=>true
def label (l:List UInt8):Bool:=decide (1≤l.length∧l.length≤12∧∀ i,i<l.length→oo l i=true)
def parts (ls:List (List UInt8)):Bool:=decide (ls.length≤8)&&(match ls with
 | []=>true
 |x::t=>(label x||x==[42])&&t.all label)
def valid (l:List UInt8):Bool:=decide (l=[46])||(decide (l.length≤60)&&parts (split l))
def labels (l:List UInt8):List (List UInt8):=if l=[46] then [] else split l
def under (s z:List UInt8):Bool:=decide (labels z <:+ labels s)
def gZ (l:List UInt8):Bool:=match l with
 |c::_=>c==42
 | []=>false
end Go.Proofs.YtfmdaiojokniiaaGreatDoor.Nm
end
section
namespace Go.Proofs
open Go.Shelf
def Tryz.Sj:Go.Shelf.Ren:=⟨fun | 5=>101 | 7=>176 | n=>n,fun | 22=>3 | 3=>3 | 4=>4 | n=>n,fun | n=>n⟩
theorem Tryz.Sk:Go.Proofs.SlLaysC2.n5 Tryz.prog Tryz.Sj:={
 mixed:=by kernel_rfl
 f5:=⟨Tryz.f101.name,by decide,Tryz.func101.trans (congrArg some (by kernel_rfl))⟩
 f7:=⟨Tryz.f176.name,by decide,Tryz.func176.trans (congrArg some (by kernel_rfl))⟩
 t3:=Tryz.underlying3
 a3:=Tryz.isAgg3
 z3:=Tryz.sizeOf3
 v3:=Tryz.zeroValue3
 t4:=Tryz.underlying4
 a4:=Tryz.isAgg4
 z4:=Tryz.sizeOf4
 v4:=Tryz.zeroValue4
 t22:=Tryz.underlying3
 a22:=Tryz.isAgg3
 z22:=Tryz.sizeOf3
 v22:=Tryz.zeroValue3 }
def Tryz.Sl:Go.Shelf.Ren:=⟨fun | 6=>99 | 15=>153 | 14=>175 | 28=>231 | 29=>232 | 20=>247 | 21=>248 | 22=>249 | 23=>250 | 24=>251 | 25=>252 | 26=>253 | 27=>254 | 46=>299 | 47=>283 | 48=>284 | 49=>300 | 50=>301 | 57=>342 | n=>n,fun | 22=>167 | 24=>169 | 25=>172 | 3=>3 | 39=>224 | 0=>0 | 53=>290 | 55=>188 | 4=>4 | 46=>283 | 45=>282 | 50=>287 | 5=>5 | 9=>9 | 66=>330 | 70=>334 | 76=>362 | 77=>363 | n=>n,fun | n=>n⟩
theorem Tryz.Sm:Go.Proofs.SlLaysF0.n6 Tryz.prog Tryz.Sl:={
 mixed:=by kernel_rfl
 f6:=⟨Tryz.f99.name,by decide,Tryz.func99.trans (congrArg some (by kernel_rfl))⟩
 f14:=⟨Tryz.f175.name,by decide,Tryz.func175.trans (congrArg some (by kernel_rfl))⟩
 f15:=Tryz.func153.trans (congrArg some (by kernel_rfl))
 f20:=⟨Tryz.f247.name,by decide,Tryz.func247.trans (congrArg some (by kernel_rfl))⟩
 f21:=⟨Tryz.f248.name,by decide,Tryz.func248.trans (congrArg some (by kernel_rfl))⟩
 f22:=⟨Tryz.f249.name,by decide,Tryz.func249.trans (congrArg some (by kernel_rfl))⟩
 f23:=⟨Tryz.f250.name,by decide,Tryz.func250.trans (congrArg some (by kernel_rfl))⟩
 f24:=⟨Tryz.f251.name,by decide,Tryz.func251.trans (congrArg some (by kernel_rfl))⟩
 f25:=⟨Tryz.f252.name,by decide,Tryz.func252.trans (congrArg some (by kernel_rfl))⟩
 f26:=⟨Tryz.f253.name,by decide,Tryz.func253.trans (congrArg some (by kernel_rfl))⟩
 f27:=⟨Tryz.f254.name,by decide,Tryz.func254.trans (congrArg some (by kernel_rfl))⟩
 f28:=Tryz.func231.trans (congrArg some (by kernel_rfl))
 f29:=Tryz.func232.trans (congrArg some (by kernel_rfl))
 f46:=⟨Tryz.f299.name,by decide,Tryz.func299.trans (congrArg some (by kernel_rfl))⟩
 f47:=Tryz.func283.trans (congrArg some (by kernel_rfl))
 f48:=Tryz.func284.trans (congrArg some (by kernel_rfl))
 f49:=⟨Tryz.f300.name,by decide,Tryz.func300.trans (congrArg some (by kernel_rfl))⟩
 f50:=⟨Tryz.f301.name,by decide,Tryz.func301.trans (congrArg some (by kernel_rfl))⟩
 f57:=⟨Tryz.f342.name,by decide,Tryz.func342.trans (congrArg some (by kernel_rfl))⟩
 t0:=Tryz.underlying0
 a0:=Tryz.isAgg0
 z0:=Tryz.sizeOf0
 v0:=Tryz.zeroValue0
 t3:=Tryz.underlying3
 a3:=Tryz.isAgg3
 z3:=Tryz.sizeOf3
 v3:=Tryz.zeroValue3
 t4:=Tryz.underlying4
 a4:=Tryz.isAgg4
 z4:=Tryz.sizeOf4
 v4:=Tryz.zeroValue4
 t5:=Tryz.underlying5
 a5:=Tryz.isAgg5
 z5:=Tryz.sizeOf5
 v5:=Tryz.zeroValue5
 t9:=Tryz.underlying9
 a9:=Tryz.isAgg9
 z9:=Tryz.sizeOf9
 v9:=Tryz.zeroValue9
 t22:=Tryz.underlying167
 a22:=Tryz.isAgg167
 z22:=Tryz.sizeOf167
 v22:=Tryz.zeroValue167
 t25:=Tryz.underlying172
 a25:=Tryz.isAgg172
 z25:=Tryz.sizeOf172
 v25:=Tryz.zeroValue172
 t39:=Tryz.underlying224
 a39:=Tryz.isAgg224
 z39:=Tryz.sizeOf224
 v39:=Tryz.zeroValue224
 t45:=Tryz.underlying282
 a45:=Tryz.isAgg282
 z45:=Tryz.sizeOf282
 v45:=Tryz.zeroValue282
 t46:=Tryz.underlying283
 a46:=Tryz.isAgg283
 z46:=Tryz.sizeOf283
 v46:=Tryz.zeroValue283
 t50:=Tryz.underlying287
 a50:=Tryz.isAgg287
 z50:=Tryz.sizeOf287
 v50:=Tryz.zeroValue287
 t53:=Tryz.underlying290
 a53:=Tryz.isAgg290
 z53:=Tryz.sizeOf290
 v53:=Tryz.zeroValue290
 t55:=Tryz.underlying188
 a55:=Tryz.isAgg188
 z55:=Tryz.sizeOf188
 v55:=Tryz.zeroValue188
 t66:=Tryz.underlying330
 a66:=Tryz.isAgg330
 z66:=Tryz.sizeOf330
 v66:=Tryz.zeroValue330
 t70:=Tryz.underlying334
 a70:=Tryz.isAgg334
 z70:=Tryz.sizeOf334
 v70:=Tryz.zeroValue334
 t76:=Tryz.underlying362
 a76:=Tryz.isAgg362
 z76:=Tryz.sizeOf362
 v76:=Tryz.zeroValue362
 t77:=Tryz.underlying363
 a77:=Tryz.isAgg363
 z77:=Tryz.sizeOf363
 v77:=Tryz.zeroValue363 }
def Tryz.Sn:Go.Shelf.Ren:=⟨fun | 6=>85 | 15=>153 | 14=>152 | 28=>231 | 29=>232 | 20=>223 | 21=>224 | 22=>225 | 23=>226 | 24=>227 | 25=>228 | 26=>229 | 27=>230 | 46=>282 | 47=>283 | 48=>284 | 49=>285 | 50=>286 | 57=>333 | n=>n,fun | 22=>148 | 24=>59 | 25=>155 | 3=>3 | 39=>224 | 0=>0 | 53=>290 | 55=>188 | 4=>4 | 46=>283 | 45=>282 | 50=>287 | 5=>5 | 9=>9 | 66=>330 | 70=>334 | 76=>362 | 77=>363 | n=>n,fun | n=>n⟩
theorem Tryz.Sp:Go.Proofs.SlLaysF0.n6 Tryz.prog Tryz.Sn:={
 mixed:=by kernel_rfl
 f6:=⟨Tryz.f85.name,by decide,Tryz.func85.trans (congrArg some (by kernel_rfl))⟩
 f14:=⟨Tryz.f152.name,by decide,Tryz.func152.trans (congrArg some (by kernel_rfl))⟩
 f15:=Tryz.func153.trans (congrArg some (by kernel_rfl))
 f20:=⟨Tryz.f223.name,by decide,Tryz.func223.trans (congrArg some (by kernel_rfl))⟩
 f21:=⟨Tryz.f224.name,by decide,Tryz.func224.trans (congrArg some (by kernel_rfl))⟩
 f22:=⟨Tryz.f225.name,by decide,Tryz.func225.trans (congrArg some (by kernel_rfl))⟩
 f23:=⟨Tryz.f226.name,by decide,Tryz.func226.trans (congrArg some (by kernel_rfl))⟩
 f24:=⟨Tryz.f227.name,by decide,Tryz.func227.trans (congrArg some (by kernel_rfl))⟩
 f25:=⟨Tryz.f228.name,by decide,Tryz.func228.trans (congrArg some (by kernel_rfl))⟩
 f26:=⟨Tryz.f229.name,by decide,Tryz.func229.trans (congrArg some (by kernel_rfl))⟩
 f27:=⟨Tryz.f230.name,by decide,Tryz.func230.trans (congrArg some (by kernel_rfl))⟩
 f28:=Tryz.func231.trans (congrArg some (by kernel_rfl))
 f29:=Tryz.func232.trans (congrArg some (by kernel_rfl))
 f46:=⟨Tryz.f282.name,by decide,Tryz.func282.trans (congrArg some (by kernel_rfl))⟩
 f47:=Tryz.func283.trans (congrArg some (by kernel_rfl))
 f48:=Tryz.func284.trans (congrArg some (by kernel_rfl))
 f49:=⟨Tryz.f285.name,by decide,Tryz.func285.trans (congrArg some (by kernel_rfl))⟩
 f50:=⟨Tryz.f286.name,by decide,Tryz.func286.trans (congrArg some (by kernel_rfl))⟩
 f57:=⟨Tryz.f333.name,by decide,Tryz.func333.trans (congrArg some (by kernel_rfl))⟩
 t0:=Tryz.underlying0
 a0:=Tryz.isAgg0
 z0:=Tryz.sizeOf0
 v0:=Tryz.zeroValue0
 t3:=Tryz.underlying3
 a3:=Tryz.isAgg3
 z3:=Tryz.sizeOf3
 v3:=Tryz.zeroValue3
 t4:=Tryz.underlying4
 a4:=Tryz.isAgg4
 z4:=Tryz.sizeOf4
 v4:=Tryz.zeroValue4
 t5:=Tryz.underlying5
 a5:=Tryz.isAgg5
 z5:=Tryz.sizeOf5
 v5:=Tryz.zeroValue5
 t9:=Tryz.underlying9
 a9:=Tryz.isAgg9
 z9:=Tryz.sizeOf9
 v9:=Tryz.zeroValue9
 t22:=Tryz.underlying148
 a22:=Tryz.isAgg148
 z22:=Tryz.sizeOf148
 v22:=Tryz.zeroValue148
 t25:=Tryz.underlying155
 a25:=Tryz.isAgg155
 z25:=Tryz.sizeOf155
 v25:=Tryz.zeroValue155
 t39:=Tryz.underlying224
 a39:=Tryz.isAgg224
 z39:=Tryz.sizeOf224
 v39:=Tryz.zeroValue224
 t45:=Tryz.underlying282
 a45:=Tryz.isAgg282
 z45:=Tryz.sizeOf282
 v45:=Tryz.zeroValue282
 t46:=Tryz.underlying283
 a46:=Tryz.isAgg283
 z46:=Tryz.sizeOf283
 v46:=Tryz.zeroValue283
 t50:=Tryz.underlying287
 a50:=Tryz.isAgg287
 z50:=Tryz.sizeOf287
 v50:=Tryz.zeroValue287
 t53:=Tryz.underlying290
 a53:=Tryz.isAgg290
 z53:=Tryz.sizeOf290
 v53:=Tryz.zeroValue290
 t55:=Tryz.underlying188
 a55:=Tryz.isAgg188
 z55:=Tryz.sizeOf188
 v55:=Tryz.zeroValue188
 t66:=Tryz.underlying330
 a66:=Tryz.isAgg330
 z66:=Tryz.sizeOf330
 v66:=Tryz.zeroValue330
 t70:=Tryz.underlying334
 a70:=Tryz.isAgg334
 z70:=Tryz.sizeOf334
 v70:=Tryz.zeroValue334
 t76:=Tryz.underlying362
 a76:=Tryz.isAgg362
 z76:=Tryz.sizeOf362
 v76:=Tryz.zeroValue362
 t77:=Tryz.underlying363
 a77:=Tryz.isAgg363
 z77:=Tryz.sizeOf363
 v77:=Tryz.zeroValue363 }
def Tryz.Sq:Go.Shelf.Ren:=⟨fun | 5=>182 | 8=>153 | 7=>261 | 19=>231 | 20=>232 | 10=>306 | 11=>307 | 12=>308 | 13=>309 | 14=>310 | 15=>311 | 16=>312 | 17=>313 | 18=>314 | 30=>344 | 31=>283 | 32=>284 | 33=>345 | 34=>346 | 35=>176 | 40=>358 | n=>n,fun | 23=>27 | 25=>3 | 3=>3 | 32=>224 | 22=>27 | 0=>0 | 44=>290 | 46=>188 | 4=>4 | 36=>283 | 35=>282 | 41=>287 | 5=>5 | 9=>9 | 53=>330 | 57=>334 | 63=>362 | 64=>363 | n=>n,fun | n=>n⟩
theorem Tryz.sortInt:Go.Proofs.SlLaysM.n5 Tryz.prog Tryz.Sq:={
 mixed:=by kernel_rfl
 f5:=⟨Tryz.f182.name,by decide,Tryz.func182.trans (congrArg some (by kernel_rfl))⟩
 f7:=⟨Tryz.f261.name,by decide,Tryz.func261.trans (congrArg some (by kernel_rfl))⟩
 f8:=Tryz.func153.trans (congrArg some (by kernel_rfl))
 f10:=⟨Tryz.f306.name,by decide,Tryz.func306.trans (congrArg some (by kernel_rfl))⟩
 f11:=⟨Tryz.f307.name,by decide,Tryz.func307.trans (congrArg some (by kernel_rfl))⟩
 f12:=⟨Tryz.f308.name,by decide,Tryz.func308.trans (congrArg some (by kernel_rfl))⟩
 f13:=⟨Tryz.f309.name,by decide,Tryz.func309.trans (congrArg some (by kernel_rfl))⟩
 f14:=⟨Tryz.f310.name,by decide,Tryz.func310.trans (congrArg some (by kernel_rfl))⟩
 f15:=⟨Tryz.f311.name,by decide,Tryz.func311.trans (congrArg some (by kernel_rfl))⟩
 f16:=⟨Tryz.f312.name,by decide,Tryz.func312.trans (congrArg some (by kernel_rfl))⟩
 f17:=⟨Tryz.f313.name,by decide,Tryz.func313.trans (congrArg some (by kernel_rfl))⟩
 f18:=⟨Tryz.f314.name,by decide,Tryz.func314.trans (congrArg some (by kernel_rfl))⟩
 f19:=Tryz.func231.trans (congrArg some (by kernel_rfl))
 f20:=Tryz.func232.trans (congrArg some (by kernel_rfl))
 f30:=⟨Tryz.f344.name,by decide,Tryz.func344.trans (congrArg some (by kernel_rfl))⟩
 f31:=Tryz.func283.trans (congrArg some (by kernel_rfl))
 f32:=Tryz.func284.trans (congrArg some (by kernel_rfl))
 f33:=⟨Tryz.f345.name,by decide,Tryz.func345.trans (congrArg some (by kernel_rfl))⟩
 f34:=⟨Tryz.f346.name,by decide,Tryz.func346.trans (congrArg some (by kernel_rfl))⟩
 f35:=⟨Tryz.f176.name,by decide,Tryz.func176.trans (congrArg some (by kernel_rfl))⟩
 f40:=⟨Tryz.f358.name,by decide,Tryz.func358.trans (congrArg some (by kernel_rfl))⟩
 t0:=Tryz.underlying0
 a0:=Tryz.isAgg0
 z0:=Tryz.sizeOf0
 v0:=Tryz.zeroValue0
 t3:=Tryz.underlying3
 a3:=Tryz.isAgg3
 z3:=Tryz.sizeOf3
 v3:=Tryz.zeroValue3
 t4:=Tryz.underlying4
 a4:=Tryz.isAgg4
 z4:=Tryz.sizeOf4
 v4:=Tryz.zeroValue4
 t5:=Tryz.underlying5
 a5:=Tryz.isAgg5
 z5:=Tryz.sizeOf5
 v5:=Tryz.zeroValue5
 t9:=Tryz.underlying9
 a9:=Tryz.isAgg9
 z9:=Tryz.sizeOf9
 v9:=Tryz.zeroValue9
 t22:=Tryz.underlying27
 a22:=Tryz.isAgg27
 z22:=Tryz.sizeOf27
 v22:=Tryz.zeroValue27
 t23:=Tryz.underlying27
 a23:=Tryz.isAgg27
 z23:=Tryz.sizeOf27
 v23:=Tryz.zeroValue27
 t25:=Tryz.underlying3
 a25:=Tryz.isAgg3
 z25:=Tryz.sizeOf3
 v25:=Tryz.zeroValue3
 t32:=Tryz.underlying224
 a32:=Tryz.isAgg224
 z32:=Tryz.sizeOf224
 v32:=Tryz.zeroValue224
 t35:=Tryz.underlying282
 a35:=Tryz.isAgg282
 z35:=Tryz.sizeOf282
 v35:=Tryz.zeroValue282
 t36:=Tryz.underlying283
 a36:=Tryz.isAgg283
 z36:=Tryz.sizeOf283
 v36:=Tryz.zeroValue283
 t41:=Tryz.underlying287
 a41:=Tryz.isAgg287
 z41:=Tryz.sizeOf287
 v41:=Tryz.zeroValue287
 t44:=Tryz.underlying290
 a44:=Tryz.isAgg290
 z44:=Tryz.sizeOf290
 v44:=Tryz.zeroValue290
 t46:=Tryz.underlying188
 a46:=Tryz.isAgg188
 z46:=Tryz.sizeOf188
 v46:=Tryz.zeroValue188
 t53:=Tryz.underlying330
 a53:=Tryz.isAgg330
 z53:=Tryz.sizeOf330
 v53:=Tryz.zeroValue330
 t57:=Tryz.underlying334
 a57:=Tryz.isAgg334
 z57:=Tryz.sizeOf334
 v57:=Tryz.zeroValue334
 t63:=Tryz.underlying362
 a63:=Tryz.isAgg362
 z63:=Tryz.sizeOf362
 v63:=Tryz.zeroValue362
 t64:=Tryz.underlying363
 a64:=Tryz.isAgg363
 z64:=Tryz.sizeOf363
 v64:=Tryz.zeroValue363 }
end Go.Proofs
end
