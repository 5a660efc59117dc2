/- Several texts of mine, one behind the other. Conditions: as each says. -/
import Derived.Calls
set_option linter.unusedVariables false
set_option linter.unusedSimpArgs false
namespace Go
def Result.world {α:Type}:Result α→World
 | .ok _ w=>w
 | .halt _ w=>w
theorem Ue {p:Program} {w w':World} {a k:Addr} {u:TypeId} {v:Value} {at_:Bool} {l:List Addr} (h:w.viewStore p a u k v at_ = .ok (w',l)):w'.drawn=w.drawn:=by
 unfold World.viewStore at h;simp only [bind,Except.bind,pure,Except.pure] at h;repeat' split at h
 all_goals first | (cases h; rfl) | (simp at h; done) | skip
theorem Uf {p:Program} {w w':World} {a:Addr} {v:Value} {at_:Bool} {l:List Addr} (h:w.farStore p a v at_ = .ok (w',l)):w'.drawn=w.drawn:=by
 unfold World.farStore at h;split at h
 ·split at h
  ·rename_i hv;cases h;exact Ue hv
  ·cases h
 ·cases h
theorem Ug {α:Type}:∀ (x:Ask α) (w:World),w.drawn≤(w.ask x).2.drawn:=by
 intro x
 induction x with
 |done a=>intro w; exact Nat.le_refl _
 |ask V1 range k ih =>
  intro w;unfold World.ask;dsimp only;split
  ·exact ih _ _
  ·exact Nat.le_trans (Nat.le_succ _) (ih _ { w with drawn:=w.drawn+1 })
theorem Ko (w:World) (c:Sys):w.drawn≤(w.sys c).2.drawn:=by
 unfold World.sys;have:=Ug (Kernel.perform c w.os) w;split
 ·exact Nat.le_refl _
 ·rename_i h; rw [h] at this; exact this
theorem Uh (w:World) (a:Addr) (n:Nat):(w.freeze a n).drawn=w.drawn:=by unfold World.freeze; split <;> rfl
theorem Sem.zW {α:Type} (p:Program) (x:Sem α):∀ (w:World),w.drawn≤(x.run p w).world.drawn:=by
 induction x with
 |pure a=>intro w; exact Nat.le_refl _
 |halt h=>intro w; exact Nat.le_refl _
 |load m a k ih =>
  intro w;unfold Sem.run;repeat' split
  all_goals first | exact Nat.le_refl _ | exact ih _ w
 |store m a v k ih =>
  intro w;cases v;all_goals first
   |exact Nat.le_refl _
   |(unfold Sem.run
     repeat' split
     all_goals first | exact Nat.le_refl _ | exact ih (w.setCell a _) | (rename_i h; exact Nat.le_trans (Nat.le_of_eq (Uf h).symm) (ih _)))
 |new o k ih=>intro w; exact ih _ { w with heap:=w.heap.push o }
 |shape r k ih=>intro w; exact ih _ w
 |freeze a n k ih=>intro w; exact Nat.le_trans (Nat.le_of_eq (Uh w a n).symm) (ih (w.freeze a n))
 |frozen a k ih=>intro w; exact ih _ w
 |getObj r k ih =>
  intro w;unfold Sem.run;repeat' split
  all_goals first | exact Nat.le_refl _ | exact ih _ w
 |setObj r o k ih =>
  intro w;unfold Sem.run;repeat' split
  all_goals first | exact Nat.le_refl _ | exact ih { w with heap:=w.heap.setIfInBounds r o }
 |choose q k ih =>
  intro w;unfold Sem.run;split
  ·exact ih _ w
  ·exact Nat.le_trans (Nat.le_succ _) (ih _ { w with drawn:=w.drawn+1 })
 |sys c k ih=>intro w; exact Nat.le_trans (Ko w c) (ih _ _)
 |program k ih=>intro w; exact ih p w
 |mark m k ih=>intro w; exact ih w
theorem Sem.Ui {α:Type} (p:Program) (x:Sem α):∀ (w:World) (es:Array Event),(x.runT p w es).1=x.run p w:=by
 induction x with
 |pure a=>intro w es; rfl
 |halt h=>intro w es; rfl
 |load m a k ih =>
  intro w es;unfold Sem.runT Sem.run;repeat' split
  all_goals first | rfl | exact ih _ _ _ | simp_all
 |store m a v k ih =>
  intro w es;cases v;all_goals first
   |rfl
   |(unfold Sem.runT Sem.run
     repeat' split
     all_goals first | rfl | exact ih _ _ | simp_all)
 |new o k ih=>intro w es; exact ih _ _ _
 |shape r k ih=>intro w es; exact ih _ _ _
 |freeze a n k ih=>intro w es; exact ih _ _
 |frozen a k ih=>intro w es; exact ih _ _ _
 |getObj r k ih =>
  intro w es;unfold Sem.runT Sem.run;repeat' split
  all_goals first | rfl | exact ih _ _ _ | simp_all
 |setObj r o k ih =>
  intro w es;unfold Sem.runT Sem.run;repeat' split
  all_goals first | rfl | exact ih _ _ | simp_all
 |choose q k ih =>
  intro w es;unfold Sem.runT Sem.run;split
  ·exact ih _ _ _
  ·exact ih _ _ _
 |sys c k ih=>intro w es; exact ih _ _ _
 |program k ih=>intro w es; exact ih _ _ _
 |mark m k ih=>intro w es; exact ih _ _
theorem Sem.xu {α:Type} (p:Program) (x:Sem α) (w:World) (es:Array Event):w.drawn≤(x.runT p w es).1.world.drawn:=by
 rw [Sem.Ui]; exact x.zW p w
def GStep.world:GStep→World
 | .go _ w _=>w
 | .comm _ _ _ _ w _=>w
 | .spawn _ _ w _=>w
 | .count _ w _=>w
 | .timer _ _ w _=>w
 | .alone _ _ w _=>w
 | .newcoro _ _ _ w _=>w
 | .coroswitch _ _ _ w _=>w
 | .collect _ w _=>w
 | .watch _ w _=>w
 | .ended _ w _=>w
theorem GStep.Uj (es:Array Event) (s:GStep):(s.after es).world=s.world:=by cases s <;> rfl
def cq (d:Nat) (s:GStep):Prop:=d≤s.world.drawn
theorem Uk {d:Nat} {c:Prop} [Decidable c] {a b:GStep} (h:cq d a) (k:cq d b):cq d (if c then a else b):=by split <;> assumption
theorem cq.after {d:Nat} {es:Array Event} {s:GStep} (h:cq d s):cq d (s.after es):=by unfold cq; rw [GStep.Uj]; exact h
theorem fT {α:Type} {p:Program} {x:Sem α} {w w':World} {a:α} (h:x.run p w = .ok a w'):w.drawn≤w'.drawn:=by have:=x.zW p w; rw [h] at this; exact this
theorem oY {α:Type} {p:Program} {x:Sem α} {w w':World} {a:Halt} (h:x.run p w = .halt a w'):w.drawn≤w'.drawn:=by have:=x.zW p w; rw [h] at this; exact this
theorem zX {α:Type} {p:Program} {x:Sem α} {w w':World} {es cX:Array Event} {a:α} (h:x.runT p w es=(.ok a w',cX)):w.drawn≤w'.drawn:=by have:=x.xu p w es; rw [h] at this; exact this
theorem zY {α:Type} {p:Program} {x:Sem α} {w w':World} {es cX:Array Event} {a:Halt} (h:x.runT p w es=(.halt a w',cX)):w.drawn≤w'.drawn:=by have:=x.xu p w es; rw [h] at this; exact this
theorem km {α:Type} {p:Program} {x:Sem α} {w w':World} {es:Array Event} {a:α} (h:(x.runT p w es).1 = .ok a w'):w.drawn≤w'.drawn:=by have:=x.xu p w es; rw [h] at this; exact this
theorem kY {α:Type} {p:Program} {x:Sem α} {w w':World} {es:Array Event} {a:Halt} (h:(x.runT p w es).1 = .halt a w'):w.drawn≤w'.drawn:=by have:=x.xu p w es; rw [h] at this; exact this
theorem Kp {w w':World} {c:Sys} {r:SysRet} (h:w.sys c=(r,w')):w.drawn≤w'.drawn:=by have:=Ko w c; rw [h] at this; exact this
theorem Ul (w:World) (fd:Nat) (t:ByteArray) (o:Outcome):cq w.drawn (endWith w fd t o):=by
 unfold endWith;dsimp only;repeat' split
 all_goals
  first
   |exact Nat.le_refl _
   |exact Kp (by assumption)
   |exact fT (by assumption)
   |exact oY (by assumption)
   |exact zX (by assumption)
   |exact zY (by assumption)
theorem xv (fr:Frame) (m:String) (w:World):cq w.drawn (endThrow fr m w):=Nat.le_refl _
theorem uv (p:Program) (fr:Frame) (v:Value) (w:World):cq w.drawn (endPrinting p fr v w):=by
 unfold endPrinting;dsimp only;repeat' split
 all_goals
  first
   |exact Nat.le_refl _
   |exact Kp (by assumption)
   |exact fT (by assumption)
   |exact oY (by assumption)
   |exact zX (by assumption)
   |exact zY (by assumption)
theorem cq.up {d e:Nat} {s:GStep} (h:d≤e) (k:cq e s):cq d s:=Nat.le_trans h k
theorem Ee (p:Program) (fr:Frame) (callers:List Frame) (dying:Option Dying) (m:String) (w:World):cq w.drawn (endFatal p fr callers dying m w):=by
 unfold endFatal;dsimp only;split
 ·exact fT (by assumption)
 ·exact oY (by assumption)
 ·exact oY (by assumption)
theorem Um (p:Program) (fr:Frame) (d:Dying) (f:Fatal) (w:World):cq w.drawn (writeOn p fr d f w):=by
 unfold writeOn;dsimp only;split
 ·exact Nat.le_refl _
 ·split;all_goals first | exact zX (by assumption) | exact zY (by assumption)
theorem Un (p:Program) (fr:Frame) (d:Dying) (w:World):cq w.drawn (die p fr d w):=by
 unfold die;split
 ·exact Um ..
 ·split
  ·split
   ·exact Nat.le_refl _
   ·exact Ul ..
  ·dsimp only;split
   ·exact Nat.le_refl _
   ·split
    ·exact fT (by assumption)
    ·exact oY (by assumption)
   ·apply cq.after;split;all_goals first | exact Nat.le_refl _ | exact km (by assumption) | exact kY (by assumption) | exact cq.up (kY (by assumption)) (uv ..)
   ·exact Nat.le_refl _
theorem zZ (p:Program) (main:Bool) (fr:Frame) (callers:List Frame) (dying:Option Dying) (v:Value) (w:World):cq w.drawn (doReturn p main fr callers dying v w):=by
 unfold doReturn;dsimp only;repeat' split
 all_goals exact Nat.le_refl _
theorem Uo (p:Program) (fr:Frame) (callers:List Frame) (dying:Option Dying) (d:Deferred) (w:World):cq w.drawn (callDeferred p fr callers dying d w):=by
 unfold callDeferred;dsimp only;refine Uk (Nat.le_refl _) ?_
 ·apply cq.after;repeat' split
  all_goals
  first
   |exact Nat.le_refl _
   |exact km (by assumption)
   |exact kY (by assumption)
   |exact cq.up (km (by assumption)) (uv ..)
   |exact cq.up (kY (by assumption)) (uv ..)
   |exact cq.up (kY (by assumption)) (Ee ..)
   |exact cq.up (kY (by assumption)) (xv ..)
   |exact cq.up (km (by assumption)) (xv ..)
   |exact cq.up (km (by assumption)) (zZ ..)
theorem Up (p:Program) (main:Bool) (fr:Frame) (callers:List Frame) (dying:Option Dying) (w:World):cq w.drawn (unwind p main fr callers dying w):=by
 unfold unwind;dsimp only;split
 ·apply cq.after;split
  ·exact km (by assumption)
  ·exact kY (by assumption)
 ·exact Uo ..
 ·split
  ·exact Nat.le_refl _
  ·repeat' split
   all_goals first | exact Nat.le_refl _ | exact fT (by assumption) | exact oY (by assumption) | exact uv ..
  ·split
   ·exact zZ ..
   ·apply cq.after;split;all_goals
    first
     |exact Nat.le_refl _
     |exact km (by assumption)
     |exact kY (by assumption)
     |exact cq.up (km (by assumption)) (uv ..)
     |exact cq.up (kY (by assumption)) (uv ..)
     |exact cq.up (kY (by assumption)) (Ee ..)
     |exact cq.up (kY (by assumption)) (xv ..)
     |exact cq.up (km (by assumption)) (xv ..)
     |exact cq.up (km (by assumption)) (zZ ..)
theorem Uq (p:Program) (fr:Frame) (callers:List Frame) (dying:Option Dying) (g:Nat) (w:World):cq w.drawn (early p fr callers dying g w):=by
 unfold early;dsimp only;repeat' split
 all_goals first | exact Nat.le_refl _ | exact (fT ‹Sem.run p _ w = .ok _ _› :) | exact fT (by assumption) | exact oY (by assumption) | exact zX (by assumption) | exact zY (by assumption)
theorem z6 (p:Program) (listen:Bool) (fr:Frame) (callers:List Frame) (dying:Option Dying) (s:Sem Next) (w:World):cq w.drawn (stepG.apply p listen fr callers dying s w):=by
 unfold stepG.apply;dsimp only;apply cq.after;obtain ⟨r,hr,hw⟩:∃ r,(if listen=true then s.runT p w #[] else (s.run p w,#[])).1=r∧w.drawn≤r.world.drawn:=⟨_,rfl,by split; exact s.xu p w #[]; exact s.zW p w⟩;rw [hr];clear hr;repeat' split
 all_goals first | exact hw | exact cq.up hw (xv ..) | exact cq.up hw (Ee ..) | exact cq.up hw (Uq ..)
theorem Kq (p:Program) (listen:Bool) (fr:Frame) (callers:List Frame) (dying:Option Dying) (w:World):cq w.drawn (stepG.oper p listen fr callers dying w):=by
 unfold stepG.oper;repeat' split
 all_goals first | exact Nat.le_refl _ | exact z6 ..
theorem Kr {α:Type} {d:Nat} {o:Option α} {a:GStep} {f:α→GStep} (h:cq d a) (k:∀ x,cq d (f x)):cq d (o.elim a f):=by cases o; exact h; exact k _
theorem Ur (p:Program) (main listen:Bool) (fr:Frame) (callers:List Frame) (dying:Option Dying) (w:World):cq w.drawn (stepG.exec p main listen fr callers dying w):=by
 unfold stepG.exec;dsimp only;split;all_goals first
  |exact Nat.le_refl _
  |exact z6 ..
  |(split <;> exact Nat.le_refl _)
  |skip
 all_goals (try refine Kr ?_ fun _=>Nat.le_refl _)
 all_goals first
  |exact Kr (Nat.le_refl _) fun _=>z6 ..
  |(split
    all_goals first
    | exact Nat.le_refl _
    | (split <;> exact Nat.le_refl _)
    | (apply cq.after
       split
       all_goals first | exact kY (by assumption) | exact (km (by assumption) :) | exact cq.up (km (by assumption)) (zZ ..)))
  |(apply cq.after
    split
    all_goals first | exact kY (by assumption) | exact km (by assumption) | exact cq.up (km (by assumption)) (z6 ..))
  |(split
    all_goals first
    | exact Nat.le_refl _
    | exact Kq ..
    | (split <;> first | exact fT (by assumption) | exact oY (by assumption) | exact Kq .. | exact Nat.le_refl _))
theorem Us (p:Program) (main:Bool) (g:Goroutine) (w:World) (listen:Bool):cq w.drawn (stepG p main g w listen):=by
 unfold stepG;dsimp only;split
 ·exact Un ..
 ·exact Ur ..
 ·exact Up ..
def jh (d:Nat):Stepped→Prop
 | .next m=>d≤m.world.drawn
 | .ended .. => True
theorem jh.up {d e:Nat} {s:Stepped} (h:d≤e) (k:jh e s):jh d s:=by cases s; exact Nat.le_trans h k; trivial
theorem Ut {rest:Rest} {cases:Array CommCase} {w w':World} (h:waitingAt rest cases w=some w'):w.drawn≤w'.drawn:=by
 unfold waitingAt at h;split at h
 ·split at h
  ·cases h; exact Nat.le_refl _
  ·cases h
 ·cases h; exact Nat.le_refl _
theorem Ef {d:Nat} {c:Prop} [Decidable c] {a b:Stepped × Array MemOp} (h:jh d a.1) (k:jh d b.1):jh d (if c then a else b).1:=by split <;> assumption
theorem Uu (p:Program) (rest:Rest) (gs:Array Goroutine) (i:Nat) (g:Goroutine) (cases:Array CommCase) (Uv:Bool) (shape:CommShape) (w:World):jh w.drawn (communicate p rest gs i g cases Uv shape w).1:=by
 unfold communicate;dsimp only;refine Ef trivial (Ef (Ef ?_ (Nat.le_refl _)) ?_)
 ·split
  ·exact Ut (by assumption)
  ·trivial
 ·split
  ·trivial
  ·repeat' split
   all_goals first
    |trivial
    |exact (fT ‹Sem.run p _ w = .ok _ _› :)
    |exact Nat.le_trans (fT ‹Sem.run p _ w = .ok _ _› :) (fT (by assumption) :)
    |(rename_i h _ _ _ k; exact Nat.le_trans (fT h :) (oY k :))
theorem Uw (p:Program) (m:Machine) (k:Nat):jh m.world.drawn (serve p m k):=by
 unfold serve;split
 ·trivial
 ·exact Nat.le_refl _
 ·dsimp only;split
  ·trivial
  ·exact Nat.le_refl _
theorem Ux (w:World) (c:Nat):(drain w c).2.drawn=w.drawn:=by unfold drain; split <;> rfl
theorem Ks (m:Machine) (k:Nat) (t:Timer) (a b:Nat):(retime m k t a b).2.world.drawn=m.world.drawn:=by
 unfold retime;split;rename_i h;split at h
 ·rename_i c _;have:=Ux m.world c; rw [h] at this; exact this
 ·cases h; rfl
theorem Kt {m m':Machine} {a:Addr} (h:timerOp.opened m a=some m'):m'.world.drawn=m.world.drawn:=by
 unfold timerOp.opened at h;split at h
 ·split at h
  ·cases h; rfl
  ·cases h
 ·cases h; rfl
theorem Ku {m m':Machine} {a:Addr} {f:Nat→Timer→Value × Machine} {v:Value} (h:timerOp.named m a f = .ok (v,m')) (k:∀ x y,(f x y).2.world.drawn=m.world.drawn):m'.world.drawn=m.world.drawn:=by
 unfold timerOp.named at h;split at h
 ·have e:=Except.ok.inj h;have:=congrArg (fun x:Value × Machine=>x.2.world.drawn) e;exact this.symm.trans (k _ _)
 ·cases h
theorem Uy {m m':Machine} {o:TimerOp} {v:Value} (h:timerOp m o = .ok (v,m')):m'.world.drawn=m.world.drawn:=by
 unfold timerOp at h;split at h
 ·split at h
  ·cases h; rfl
  ·split at h
   ·split at h
    ·cases h
    ·cases h; rfl
   ·cases h
 ·exact Ku h fun _ _=>Ks ..
 ·split at h
  ·rename_i e;exact (Ku h fun _ _=>(Ks ..).trans (by first | rfl | exact Kt e | exact (Kt e).symm))
  ·cases h
 ·cases h; rfl
theorem Eg (p:Program) (gs:Array Goroutine) (rest:Rest) (w:World):jh w.drawn (look p gs rest w):=by
 unfold look;split
 ·dsimp only;split
  ·trivial
  ·split
   ·trivial
   ·split
    ·exact (fT ‹Sem.run p _ w = .ok _ _› :)
    ·trivial
    ·trivial
 ·trivial
theorem Kv {fr:Frame} {m:String} {w w':World} {g:Goroutine} {es:Array Event} (h:endThrow fr m w = .go g w' es):w'.drawn=w.drawn:=by
 unfold endThrow dieOf at h;cases h; rfl
theorem Uz (p:Program) (m:Machine) (i:Nat) (l:Bool):jh m.world.drawn (runT p m i l).1:=by
 unfold runT;dsimp only;generalize m.gs.swapAt! i _=sw;have hs:=Us p (i==0) sw.1 m.world l;split;all_goals (rename_i heq; rw [heq] at hs)
 ·trivial
 ·exact jh.up hs (Uu ..)
 ·exact hs
 ·exact hs
 ·dsimp only;split
  ·trivial
  ·exact hs
 ·exact hs
 ·exact jh.up hs (Eg ..)
 ·exact hs
 ·exact hs
 ·dsimp only;split
  ·exact hs
  ·split
   ·exact Nat.le_trans hs (Nat.le_of_eq (Kv (by assumption)).symm)
   ·trivial
  ·trivial
 ·dsimp only;split
  ·rename_i h;exact Nat.le_trans hs (Nat.le_of_eq (Uy h).symm)
  ·split
   ·exact Nat.le_trans hs (Nat.le_of_eq (Kv (by assumption)).symm)
   ·trivial
  ·trivial
  ·trivial
def jH (d:Nat):Move→Prop
 | .goroutine m _=>d≤m.world.drawn
 | .machine s _=>jh d s
theorem jH.up {d e:Nat} {s:Move} (h:d≤e) (k:jH e s):jH d s:=by cases s; exact Nat.le_trans h k; exact jh.up h k
theorem xw {d:Nat} {c:Prop} [Decidable c] {a b:Move} (h:jH d a) (k:jH d b):jH d (if c then a else b):=by split <;> assumption
theorem Eh (p : Program) (m : Machine) (rs : List Nat) : jH m.world.drawn (match (choose (.sched rs.length)).run p m.world with
      | .halt _ w => .machine (.ended (.stuck "sched" "") w)
      | .ok k world =>
        if rs.length ≤ 1 then .goroutine { m with world } (rs.getD k 0) else
        match (choose (.extern "sched.slice" 65536)).run p world with
        | .halt _ w => .machine (.ended (.stuck "sched.slice" "") w)
        | .ok n world => .goroutine { m with world, rest := { m.rest with slice := if n = 0 then none else some (rs.getD k 0, n) } } (rs.getD k 0)) := by
 split
 ·trivial
 ·have e:=fT (by assumption);refine xw e ?_;split
  ·trivial
  ·exact Nat.le_trans e (fT (by assumption))
theorem Ei (p:Program) (m:Machine):jH m.world.drawn (askOn p m):=by
 unfold askOn;dsimp only;split
 ·trivial
 ·have e:=fT (by assumption);refine xw (jh.up e (Uw ..)) ?_;split
  ·split
   ·exact e
   ·refine xw e ?_;split <;> trivial
  ·split
   ·exact jH.up e (Eh p { m with world:=_ } _)
   ·split
    ·trivial
    ·exact jH.up (Nat.le_trans e (fT (by assumption))) (Eh p { m with world:=_ } _)
    ·rename_i h; exact Nat.le_trans e (fT h :)
    ·rename_i h; exact jH.up (Nat.le_trans e (fT h :)) (Eh p (Machine.advanceTo { m with world:=_ } _) _)
theorem Kw (p:Program) (m:Machine):jH m.world.drawn (ask p m):=by
 unfold ask;split
 ·split
  ·trivial
  ·have e:=fT (by assumption);split
   ·rename_i w1 _ _ _ h;have l:=Eg p m.gs m.rest w1;rw [h] at l; exact jH.up (Nat.le_trans e l) (Ei ..)
   ·exact jh.up e (Eg ..)
  ·exact jH.up (fT (by assumption)) (Ei p { m with world:=_ })
 ·exact Ei ..
theorem UA (p:Program) (m:Machine):jH m.world.drawn (move p m):=by
 unfold move;split
 ·exact xw (Nat.le_refl _) trivial
 ·split
  ·exact xw (Nat.le_refl _) (Kw p { m with rest:=_ })
  ·exact Kw ..
theorem UB {p:Program} {m m':Machine} (h:step p m = .next m'):m.world.drawn≤m'.world.drawn:=by
 have k:=UA p m;unfold step stepT at h;split at h
 ·rename_i m1 i e; rw [e] at k;have r:=Uz p m1 i true;rw [h] at r;exact Nat.le_trans k r
 ·rename_i e; rw [e] at k; dsimp only at h; rw [h] at k; exact k
theorem Kx {p:Program}:∀ {n:Nat} {m m':Machine},runN p n m = .next m'→m.world.drawn≤m'.world.drawn
 | 0,m,m',h=>by cases h; exact Nat.le_refl _
 |n+1,m,m',h=>by
  unfold runN at h;split at h
  ·exact Nat.le_trans (UB (by assumption)) (Kx h)
  ·rename_i k; exact absurd h (k _)
theorem Steps.drawn {p:Program} {m m':Machine} (h:Steps p m m'):m.world.drawn≤m'.world.drawn:=h.elim fun _=>Kx
theorem Calls.drawn {P:Program} {f:FuncId} {args:Array Value} {w:World} {R:Ending→World→Prop} (h:Calls P f args w R) (hr:∀ e w',R e w'→∃ v,e = .returned v):Calls P f args w fun e w'=>R e w'∧w.drawn≤w'.drawn:=by
 intro cs;obtain ⟨e,w',fr,r,c,k⟩:=h cs;obtain ⟨v,rfl⟩:=hr e w' r;exact ⟨_,w',fr,⟨r,Steps.drawn (m:=lone _ cs w) (m':=lone fr cs w') c⟩,c,k⟩
end Go
