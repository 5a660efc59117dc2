/- Several texts of mine, one behind the other. Conditions: as each says. -/
import Derived.Calls
set_option linter.unusedVariables false
set_option linter.unusedSimpArgs false
namespace Go
def Result.world {α:Type}:Result α→World
 | .ok _ w=>w
 | .halt _ w=>w
theorem VX {p:Program} {w w':World} {a k:Addr} {u:TypeId} {v:Value} {at_:Bool} {l:List Addr} (h:w.viewStore p a u k v at_ = .ok (w',l)):w'.drawn=w.drawn:=by
 unfold World.viewStore at h;simp only [bind,Except.bind,pure,Except.pure] at h;repeat' split at h
 all_goals first | (cases h; rfl) | (simp at h; done) | skip
theorem VY {p:Program} {w w':World} {a:Addr} {v:Value} {at_:Bool} {l:List Addr} (h:w.farStore p a v at_ = .ok (w',l)):w'.drawn=w.drawn:=by
 unfold World.farStore at h;split at h
 ·split at h
  ·rename_i hv;cases h;exact VX hv
  ·cases h
 ·cases h
theorem VZ {α:Type}:∀ (x:Ask α) (w:World),w.drawn≤(w.ask x).2.drawn:=by
 intro x
 induction x with
 |done a=>intro w; exact Nat.le_refl _
 |ask XR range k ih =>
  intro w;unfold World.ask;dsimp only;split
  ·exact ih _ _
  ·exact Nat.le_trans (Nat.le_succ _) (ih _ { w with drawn:=w.drawn+1 })
theorem LF (w:World) (c:Sys):w.drawn≤(w.sys c).2.drawn:=by
 unfold World.sys;have:=VZ (Kernel.perform c w.os) w;split
 ·exact Nat.le_refl _
 ·rename_i h; rw [h] at this; exact this
theorem V0 (w:World) (a:Addr) (n:Nat):(w.freeze a n).drawn=w.drawn:=by unfold World.freeze; split <;> rfl
theorem Sem.A0 {α:Type} (p:Program) (x:Sem α):∀ (w:World),w.drawn≤(x.run p w).world.drawn:=by
 induction x with
 |pure a=>intro w; exact Nat.le_refl _
 |halt h=>intro w; exact Nat.le_refl _
 |load m a k ih =>
  intro w;unfold Sem.run;repeat' split
  all_goals first | exact Nat.le_refl _ | exact ih _ w
 |store m a v k ih =>
  intro w;cases v;all_goals first
   |exact Nat.le_refl _
   |(unfold Sem.run
     repeat' split
     all_goals first | exact Nat.le_refl _ | exact ih (w.setCell a _) | (rename_i h; exact Nat.le_trans (Nat.le_of_eq (VY h).symm) (ih _)))
 |new o k ih=>intro w; exact ih _ { w with heap:=w.heap.push o }
 |shape r k ih=>intro w; exact ih _ w
 |freeze a n k ih=>intro w; exact Nat.le_trans (Nat.le_of_eq (V0 w a n).symm) (ih (w.freeze a n))
 |frozen a k ih=>intro w; exact ih _ w
 |getObj r k ih =>
  intro w;unfold Sem.run;repeat' split
  all_goals first | exact Nat.le_refl _ | exact ih _ w
 |setObj r o k ih =>
  intro w;unfold Sem.run;repeat' split
  all_goals first | exact Nat.le_refl _ | exact ih { w with heap:=w.heap.setIfInBounds r o }
 |choose q k ih =>
  intro w;unfold Sem.run;split
  ·exact ih _ w
  ·exact Nat.le_trans (Nat.le_succ _) (ih _ { w with drawn:=w.drawn+1 })
 |sys c k ih=>intro w; exact Nat.le_trans (LF w c) (ih _ _)
 |program k ih=>intro w; exact ih p w
 |mark m k ih=>intro w; exact ih w
theorem Sem.V1 {α:Type} (p:Program) (x:Sem α):∀ (w:World) (es:Array Event),(x.runT p w es).1=x.run p w:=by
 induction x with
 |pure a=>intro w es; rfl
 |halt h=>intro w es; rfl
 |load m a k ih =>
  intro w es;unfold Sem.runT Sem.run;repeat' split
  all_goals first | rfl | exact ih _ _ _ | simp_all
 |store m a v k ih =>
  intro w es;cases v;all_goals first
   |rfl
   |(unfold Sem.runT Sem.run
     repeat' split
     all_goals first | rfl | exact ih _ _ | simp_all)
 |new o k ih=>intro w es; exact ih _ _ _
 |shape r k ih=>intro w es; exact ih _ _ _
 |freeze a n k ih=>intro w es; exact ih _ _
 |frozen a k ih=>intro w es; exact ih _ _ _
 |getObj r k ih =>
  intro w es;unfold Sem.runT Sem.run;repeat' split
  all_goals first | rfl | exact ih _ _ _ | simp_all
 |setObj r o k ih =>
  intro w es;unfold Sem.runT Sem.run;repeat' split
  all_goals first | rfl | exact ih _ _ | simp_all
 |choose q k ih =>
  intro w es;unfold Sem.runT Sem.run;split
  ·exact ih _ _ _
  ·exact ih _ _ _
 |sys c k ih=>intro w es; exact ih _ _ _
 |program k ih=>intro w es; exact ih _ _ _
 |mark m k ih=>intro w es; exact ih _ _
theorem Sem.yq {α:Type} (p:Program) (x:Sem α) (w:World) (es:Array Event):w.drawn≤(x.runT p w es).1.world.drawn:=by
 rw [Sem.V1]; exact x.A0 p w
def GStep.world:GStep→World
 | .go _ w _=>w
 | .comm _ _ _ _ w _=>w
 | .spawn _ _ w _=>w
 | .count _ w _=>w
 | .timer _ _ w _=>w
 | .alone _ _ w _=>w
 | .newcoro _ _ _ w _=>w
 | .coroswitch _ _ _ w _=>w
 | .collect _ w _=>w
 | .watch _ w _=>w
 | .ended _ w _=>w
theorem GStep.V2 (es:Array Event) (s:GStep):(s.after es).world=s.world:=by cases s <;> rfl
def cu (d:Nat) (s:GStep):Prop:=d≤s.world.drawn
theorem V3 {d:Nat} {c:Prop} [Decidable c] {a b:GStep} (h:cu d a) (k:cu d b):cu d (if c then a else b):=by split <;> assumption
theorem cu.after {d:Nat} {es:Array Event} {s:GStep} (h:cu d s):cu d (s.after es):=by unfold cu; rw [GStep.V2]; exact h
theorem gw {α:Type} {p:Program} {x:Sem α} {w w':World} {a:α} (h:x.run p w = .ok a w'):w.drawn≤w'.drawn:=by have:=x.A0 p w; rw [h] at this; exact this
theorem pS {α:Type} {p:Program} {x:Sem α} {w w':World} {a:Halt} (h:x.run p w = .halt a w'):w.drawn≤w'.drawn:=by have:=x.A0 p w; rw [h] at this; exact this
theorem A2 {α:Type} {p:Program} {x:Sem α} {w w':World} {es db:Array Event} {a:α} (h:x.runT p w es=(.ok a w',db)):w.drawn≤w'.drawn:=by have:=x.yq p w es; rw [h] at this; exact this
theorem A3 {α:Type} {p:Program} {x:Sem α} {w w':World} {es db:Array Event} {a:Halt} (h:x.runT p w es=(.halt a w',db)):w.drawn≤w'.drawn:=by have:=x.yq p w es; rw [h] at this; exact this
theorem kZ {α:Type} {p:Program} {x:Sem α} {w w':World} {es:Array Event} {a:α} (h:(x.runT p w es).1 = .ok a w'):w.drawn≤w'.drawn:=by have:=x.yq p w es; rw [h] at this; exact this
theorem l3 {α:Type} {p:Program} {x:Sem α} {w w':World} {es:Array Event} {a:Halt} (h:(x.runT p w es).1 = .halt a w'):w.drawn≤w'.drawn:=by have:=x.yq p w es; rw [h] at this; exact this
theorem LG {w w':World} {c:Sys} {r:SysRet} (h:w.sys c=(r,w')):w.drawn≤w'.drawn:=by have:=LF w c; rw [h] at this; exact this
theorem V4 (w:World) (fd:Nat) (t:ByteArray) (o:Outcome):cu w.drawn (endWith w fd t o):=by
 unfold endWith;dsimp only;repeat' split
 all_goals
  first
   |exact Nat.le_refl _
   |exact LG (by assumption)
   |exact gw (by assumption)
   |exact pS (by assumption)
   |exact A2 (by assumption)
   |exact A3 (by assumption)
theorem yr (fr:Frame) (m:String) (w:World):cu w.drawn (endThrow fr m w):=Nat.le_refl _
theorem vA (p:Program) (fr:Frame) (v:Value) (w:World):cu w.drawn (endPrinting p fr v w):=by
 unfold endPrinting;dsimp only;repeat' split
 all_goals
  first
   |exact Nat.le_refl _
   |exact LG (by assumption)
   |exact gw (by assumption)
   |exact pS (by assumption)
   |exact A2 (by assumption)
   |exact A3 (by assumption)
theorem cu.up {d e:Nat} {s:GStep} (h:d≤e) (k:cu e s):cu d s:=Nat.le_trans h k
theorem Fj (p:Program) (fr:Frame) (callers:List Frame) (dying:Option Dying) (m:String) (w:World):cu w.drawn (endFatal p fr callers dying m w):=by
 unfold endFatal;dsimp only;split
 ·exact gw (by assumption)
 ·exact pS (by assumption)
 ·exact pS (by assumption)
theorem V5 (p:Program) (fr:Frame) (d:Dying) (f:Fatal) (w:World):cu w.drawn (writeOn p fr d f w):=by
 unfold writeOn;dsimp only;split
 ·exact Nat.le_refl _
 ·split;all_goals first | exact A2 (by assumption) | exact A3 (by assumption)
theorem V6 (p:Program) (fr:Frame) (d:Dying) (w:World):cu w.drawn (die p fr d w):=by
 unfold die;split
 ·exact V5 ..
 ·split
  ·split
   ·exact Nat.le_refl _
   ·exact V4 ..
  ·dsimp only;split
   ·exact Nat.le_refl _
   ·split
    ·exact gw (by assumption)
    ·exact pS (by assumption)
   ·apply cu.after;split;all_goals first | exact Nat.le_refl _ | exact kZ (by assumption) | exact l3 (by assumption) | exact cu.up (l3 (by assumption)) (vA ..)
   ·exact Nat.le_refl _
theorem A4 (p:Program) (main:Bool) (fr:Frame) (callers:List Frame) (dying:Option Dying) (v:Value) (w:World):cu w.drawn (doReturn p main fr callers dying v w):=by
 unfold doReturn;dsimp only;repeat' split
 all_goals exact Nat.le_refl _
theorem V7 (p:Program) (fr:Frame) (callers:List Frame) (dying:Option Dying) (d:Deferred) (w:World):cu w.drawn (callDeferred p fr callers dying d w):=by
 unfold callDeferred;dsimp only;refine V3 (Nat.le_refl _) ?_
 ·apply cu.after;repeat' split
  all_goals
  first
   |exact Nat.le_refl _
   |exact kZ (by assumption)
   |exact l3 (by assumption)
   |exact cu.up (kZ (by assumption)) (vA ..)
   |exact cu.up (l3 (by assumption)) (vA ..)
   |exact cu.up (l3 (by assumption)) (Fj ..)
   |exact cu.up (l3 (by assumption)) (yr ..)
   |exact cu.up (kZ (by assumption)) (yr ..)
   |exact cu.up (kZ (by assumption)) (A4 ..)
theorem V8 (p:Program) (main:Bool) (fr:Frame) (callers:List Frame) (dying:Option Dying) (w:World):cu w.drawn (unwind p main fr callers dying w):=by
 unfold unwind;dsimp only;split
 ·apply cu.after;split
  ·exact kZ (by assumption)
  ·exact l3 (by assumption)
 ·exact V7 ..
 ·split
  ·exact Nat.le_refl _
  ·repeat' split
   all_goals first | exact Nat.le_refl _ | exact gw (by assumption) | exact pS (by assumption) | exact vA ..
  ·split
   ·exact A4 ..
   ·apply cu.after;split;all_goals
    first
     |exact Nat.le_refl _
     |exact kZ (by assumption)
     |exact l3 (by assumption)
     |exact cu.up (kZ (by assumption)) (vA ..)
     |exact cu.up (l3 (by assumption)) (vA ..)
     |exact cu.up (l3 (by assumption)) (Fj ..)
     |exact cu.up (l3 (by assumption)) (yr ..)
     |exact cu.up (kZ (by assumption)) (yr ..)
     |exact cu.up (kZ (by assumption)) (A4 ..)
theorem V9 (p:Program) (fr:Frame) (callers:List Frame) (dying:Option Dying) (g:Nat) (w:World):cu w.drawn (early p fr callers dying g w):=by
 unfold early;dsimp only;repeat' split
 all_goals first | exact Nat.le_refl _ | exact (gw ‹Sem.run p _ w = .ok _ _› :) | exact gw (by assumption) | exact pS (by assumption) | exact A2 (by assumption) | exact A3 (by assumption)
theorem A5 (p:Program) (listen:Bool) (fr:Frame) (callers:List Frame) (dying:Option Dying) (s:Sem Next) (w:World):cu w.drawn (stepG.apply p listen fr callers dying s w):=by
 unfold stepG.apply;dsimp only;apply cu.after;obtain ⟨r,hr,hw⟩:∃ r,(if listen=true then s.runT p w #[] else (s.run p w,#[])).1=r∧w.drawn≤r.world.drawn:=⟨_,rfl,by split; exact s.yq p w #[]; exact s.A0 p w⟩;rw [hr];clear hr;repeat' split
 all_goals first | exact hw | exact cu.up hw (yr ..) | exact cu.up hw (Fj ..) | exact cu.up hw (V9 ..)
theorem LH (p:Program) (listen:Bool) (fr:Frame) (callers:List Frame) (dying:Option Dying) (w:World):cu w.drawn (stepG.oper p listen fr callers dying w):=by
 unfold stepG.oper;repeat' split
 all_goals first | exact Nat.le_refl _ | exact A5 ..
theorem LI {α:Type} {d:Nat} {o:Option α} {a:GStep} {f:α→GStep} (h:cu d a) (k:∀ x,cu d (f x)):cu d (o.elim a f):=by cases o; exact h; exact k _
theorem V' (p:Program) (main listen:Bool) (fr:Frame) (callers:List Frame) (dying:Option Dying) (w:World):cu w.drawn (stepG.exec p main listen fr callers dying w):=by
 unfold stepG.exec;dsimp only;split;all_goals first
  |exact Nat.le_refl _
  |exact A5 ..
  |(split <;> exact Nat.le_refl _)
  |skip
 all_goals (try refine LI ?_ fun _=>Nat.le_refl _)
 all_goals first
  |exact LI (Nat.le_refl _) fun _=>A5 ..
  |(split
    all_goals first
    | exact Nat.le_refl _
    | (split <;> exact Nat.le_refl _)
    | (apply cu.after
       split
       all_goals first | exact l3 (by assumption) | exact (kZ (by assumption) :) | exact cu.up (kZ (by assumption)) (A4 ..)))
  |(apply cu.after
    split
    all_goals first | exact l3 (by assumption) | exact kZ (by assumption) | exact cu.up (kZ (by assumption)) (A5 ..))
  |(split
    all_goals first
    | exact Nat.le_refl _
    | exact LH ..
    | (split <;> first | exact gw (by assumption) | exact pS (by assumption) | exact LH .. | exact Nat.le_refl _))
theorem Wa (p:Program) (main:Bool) (g:Goroutine) (w:World) (listen:Bool):cu w.drawn (stepG p main g w listen):=by
 unfold stepG;dsimp only;split
 ·exact V6 ..
 ·exact V' ..
 ·exact V8 ..
def jI (d:Nat):Stepped→Prop
 | .next m=>d≤m.world.drawn
 | .ended .. => True
theorem jI.up {d e:Nat} {s:Stepped} (h:d≤e) (k:jI e s):jI d s:=by cases s; exact Nat.le_trans h k; trivial
theorem Wb {rest:Rest} {cases:Array CommCase} {w w':World} (h:waitingAt rest cases w=some w'):w.drawn≤w'.drawn:=by
 unfold waitingAt at h;split at h
 ·split at h
  ·cases h; exact Nat.le_refl _
  ·cases h
 ·cases h; exact Nat.le_refl _
theorem Fk {d:Nat} {c:Prop} [Decidable c] {a b:Stepped × Array MemOp} (h:jI d a.1) (k:jI d b.1):jI d (if c then a else b).1:=by split <;> assumption
theorem Wc (p:Program) (rest:Rest) (gs:Array Goroutine) (i:Nat) (g:Goroutine) (cases:Array CommCase) (Wd:Bool) (shape:CommShape) (w:World):jI w.drawn (communicate p rest gs i g cases Wd shape w).1:=by
 unfold communicate;dsimp only;refine Fk trivial (Fk (Fk ?_ (Nat.le_refl _)) ?_)
 ·split
  ·exact Wb (by assumption)
  ·trivial
 ·split
  ·trivial
  ·repeat' split
   all_goals first
    |trivial
    |exact (gw ‹Sem.run p _ w = .ok _ _› :)
    |exact Nat.le_trans (gw ‹Sem.run p _ w = .ok _ _› :) (gw (by assumption) :)
    |(rename_i h _ _ _ k; exact Nat.le_trans (gw h :) (pS k :))
theorem We (p:Program) (m:Machine) (k:Nat):jI m.world.drawn (serve p m k):=by
 unfold serve;split
 ·trivial
 ·exact Nat.le_refl _
 ·dsimp only;split
  ·trivial
  ·exact Nat.le_refl _
theorem Wf (w:World) (c:Nat):(drain w c).2.drawn=w.drawn:=by unfold drain; split <;> rfl
theorem LJ (m:Machine) (k:Nat) (t:Timer) (a b:Nat):(retime m k t a b).2.world.drawn=m.world.drawn:=by
 unfold retime;split;rename_i h;split at h
 ·rename_i c _;have:=Wf m.world c; rw [h] at this; exact this
 ·cases h; rfl
theorem LK {m m':Machine} {a:Addr} (h:timerOp.opened m a=some m'):m'.world.drawn=m.world.drawn:=by
 unfold timerOp.opened at h;split at h
 ·split at h
  ·cases h; rfl
  ·cases h
 ·cases h; rfl
theorem LL {m m':Machine} {a:Addr} {f:Nat→Timer→Value × Machine} {v:Value} (h:timerOp.named m a f = .ok (v,m')) (k:∀ x y,(f x y).2.world.drawn=m.world.drawn):m'.world.drawn=m.world.drawn:=by
 unfold timerOp.named at h;split at h
 ·have e:=Except.ok.inj h;have:=congrArg (fun x:Value × Machine=>x.2.world.drawn) e;exact this.symm.trans (k _ _)
 ·cases h
theorem Wg {m m':Machine} {o:TimerOp} {v:Value} (h:timerOp m o = .ok (v,m')):m'.world.drawn=m.world.drawn:=by
 unfold timerOp at h;split at h
 ·split at h
  ·cases h; rfl
  ·split at h
   ·split at h
    ·cases h
    ·cases h; rfl
   ·cases h
 ·exact LL h fun _ _=>LJ ..
 ·split at h
  ·rename_i e;exact (LL h fun _ _=>(LJ ..).trans (by first | rfl | exact LK e | exact (LK e).symm))
  ·cases h
 ·cases h; rfl
theorem Fl (p:Program) (gs:Array Goroutine) (rest:Rest) (w:World):jI w.drawn (look p gs rest w):=by
 unfold look;split
 ·dsimp only;split
  ·trivial
  ·split
   ·trivial
   ·split
    ·exact (gw ‹Sem.run p _ w = .ok _ _› :)
    ·trivial
    ·trivial
 ·trivial
theorem LM {fr:Frame} {m:String} {w w':World} {g:Goroutine} {es:Array Event} (h:endThrow fr m w = .go g w' es):w'.drawn=w.drawn:=by
 unfold endThrow dieOf at h;cases h; rfl
theorem Wh (p:Program) (m:Machine) (i:Nat) (l:Bool):jI m.world.drawn (runT p m i l).1:=by
 unfold runT;dsimp only;generalize m.gs.swapAt! i _=sw;have hs:=Wa p (i==0) sw.1 m.world l;split;all_goals (rename_i heq; rw [heq] at hs)
 ·trivial
 ·exact jI.up hs (Wc ..)
 ·exact hs
 ·exact hs
 ·dsimp only;split
  ·trivial
  ·exact hs
 ·exact hs
 ·exact jI.up hs (Fl ..)
 ·exact hs
 ·exact hs
 ·dsimp only;split
  ·exact hs
  ·split
   ·exact Nat.le_trans hs (Nat.le_of_eq (LM (by assumption)).symm)
   ·trivial
  ·trivial
 ·dsimp only;split
  ·rename_i h;exact Nat.le_trans hs (Nat.le_of_eq (Wg h).symm)
  ·split
   ·exact Nat.le_trans hs (Nat.le_of_eq (LM (by assumption)).symm)
   ·trivial
  ·trivial
  ·trivial
def kl (d:Nat):Move→Prop
 | .goroutine m _=>d≤m.world.drawn
 | .machine s _=>jI d s
theorem kl.up {d e:Nat} {s:Move} (h:d≤e) (k:kl e s):kl d s:=by cases s; exact Nat.le_trans h k; exact jI.up h k
theorem yu {d:Nat} {c:Prop} [Decidable c] {a b:Move} (h:kl d a) (k:kl d b):kl d (if c then a else b):=by split <;> assumption
theorem Fm (p : Program) (m : Machine) (rs : List Nat) : kl m.world.drawn (match (choose (.sched rs.length)).run p m.world with
      | .halt _ w => .machine (.ended (.stuck "sched" "") w)
      | .ok k world =>
        if rs.length ≤ 1 then .goroutine { m with world } (rs.getD k 0) else
        match (choose (.extern "sched.slice" 65536)).run p world with
        | .halt _ w => .machine (.ended (.stuck "sched.slice" "") w)
        | .ok n world => .goroutine { m with world, rest := { m.rest with slice := if n = 0 then none else some (rs.getD k 0, n) } } (rs.getD k 0)) := by
 split
 ·trivial
 ·have e:=gw (by assumption);refine yu e ?_;split
  ·trivial
  ·exact Nat.le_trans e (gw (by assumption))
theorem Fp (p:Program) (m:Machine):kl m.world.drawn (askOn p m):=by
 unfold askOn;dsimp only;split
 ·trivial
 ·have e:=gw (by assumption);refine yu (jI.up e (We ..)) ?_;split
  ·split
   ·exact e
   ·refine yu e ?_;split <;> trivial
  ·split
   ·exact kl.up e (Fm p { m with world:=_ } _)
   ·split
    ·trivial
    ·exact kl.up (Nat.le_trans e (gw (by assumption))) (Fm p { m with world:=_ } _)
    ·rename_i h; exact Nat.le_trans e (gw h :)
    ·rename_i h; exact kl.up (Nat.le_trans e (gw h :)) (Fm p (Machine.advanceTo { m with world:=_ } _) _)
theorem LN (p:Program) (m:Machine):kl m.world.drawn (ask p m):=by
 unfold ask;split
 ·split
  ·trivial
  ·have e:=gw (by assumption);split
   ·rename_i w1 _ _ _ h;have l:=Fl p m.gs m.rest w1;rw [h] at l; exact kl.up (Nat.le_trans e l) (Fp ..)
   ·exact jI.up e (Fl ..)
  ·exact kl.up (gw (by assumption)) (Fp p { m with world:=_ })
 ·exact Fp ..
theorem Wi (p:Program) (m:Machine):kl m.world.drawn (move p m):=by
 unfold move;split
 ·exact yu (Nat.le_refl _) trivial
 ·split
  ·exact yu (Nat.le_refl _) (LN p { m with rest:=_ })
  ·exact LN ..
theorem Wj {p:Program} {m m':Machine} (h:step p m = .next m'):m.world.drawn≤m'.world.drawn:=by
 have k:=Wi p m;unfold step stepT at h;split at h
 ·rename_i m1 i e; rw [e] at k;have r:=Wh p m1 i true;rw [h] at r;exact Nat.le_trans k r
 ·rename_i e; rw [e] at k; dsimp only at h; rw [h] at k; exact k
theorem LO {p:Program}:∀ {n:Nat} {m m':Machine},runN p n m = .next m'→m.world.drawn≤m'.world.drawn
 | 0,m,m',h=>by cases h; exact Nat.le_refl _
 |n+1,m,m',h=>by
  unfold runN at h;split at h
  ·exact Nat.le_trans (Wj (by assumption)) (LO h)
  ·rename_i k; exact absurd h (k _)
theorem Steps.drawn {p:Program} {m m':Machine} (h:Steps p m m'):m.world.drawn≤m'.world.drawn:=h.elim fun _=>LO
theorem Calls.drawn {P:Program} {f:FuncId} {args:Array Value} {w:World} {R:Ending→World→Prop} (h:Calls P f args w R) (hr:∀ e w',R e w'→∃ v,e = .returned v):Calls P f args w fun e w'=>R e w'∧w.drawn≤w'.drawn:=by
 intro cs;obtain ⟨e,w',fr,r,c,k⟩:=h cs;obtain ⟨v,rfl⟩:=hr e w' r;exact ⟨_,w',fr,⟨r,Steps.drawn (m:=lone _ cs w) (m':=lone fr cs w') c⟩,c,k⟩
end Go
